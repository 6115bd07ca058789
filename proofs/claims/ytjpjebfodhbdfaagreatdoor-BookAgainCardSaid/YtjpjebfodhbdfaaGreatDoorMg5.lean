import Derived.Test.YtjpjebfodhbdfaaGreatDoorMg4
import Derived.Test.YtjpjebfodhbdfaaGreatDoorRows
import Derived.Test.YtjpjebfodhbdfaaGreatDoorMg2
import Derived.ChangeVars
import Derived.JoinedOf
import Derived.LaidLaws
import Derived.LaidHandle
import Derived.SizedLaws
set_option linter.unusedSimpArgs false
set_option linter.unusedVariables false
set_option linter.unnecessarySimpa false
namespace Go.Proofs.YtjpjebfodhbdfaaGreatDoor
open Go
abbrev evL (b : Ct) : List Ev := b.L.map (·.2)
def stB (b : Ct) : Str := digB 9 b.n ++ marksB b.M ++ (evL b).flatMap putE
theorem evL_right {b : Ct} (h : CtW b) : ∀ e ∈ evL b, rightE e = true := fun e he => by
  obtain ⟨x, hx, rfl⟩ := List.mem_map.1 he
  exact (h.ev x hx).1
theorem putEs_le : ∀ {l : List Ev}, (∀ e ∈ l, rightE e = true) → (l.flatMap putE).length ≤ 300 * l.length
  | [], _ => by simp
  | e :: l, h => by
    have h1 := putE_le (h e (by simp))
    have h2 := putEs_le fun x hx => h x (List.mem_cons_of_mem _ hx)
    simp only [List.flatMap_cons, List.length_append, List.length_cons]
    omega
theorem state_spec {bb lb : Nat} {b : Ct} {cc : List Blk} (h : IsCt bb lb b cc) (ho : CtW b) (hn : b.n ≤ 1000000) : FN Tryz.prog 30 [ptrB bb] [cc] (is (sv (stB b)) [cc]) := by
  have hml := ho.ris.2
  have hlen := ho.len
  have hd := digB_len 9 b.n
  have hmb := mksB_le b.M
  have hev := evL_right ho
  have hel : (evL b).length = b.L.length := List.length_map _
  have hds : FN Tryz.prog 73 [.int .i64 (b.n : Int)] [] (is (sv (digB 9 b.n)) []) := digits_spec 8 b.n (by decide) (Nat.lt_of_le_of_lt hn (by decide)) (by omega)
  have hls := list_spec h ho
  unfold stB
  change FN _ _ _ _ (fun u h => ∃ row, IsSl 41 5 u (evsB (evL b)) row ∧ h = [row, cc]) at hls
  generalize evL b = E at hev hel hls ⊢
  refine FN.intro 29 [(0, ptrB bb)] Tryz.func30 rfl (enters Tryz.func30 (by kernel_rfl) rfl) Tryz.ntmps30 rfl rfl ?_
  refine WP.seq <| WP.region <| v0 (S0.assign rfl) rfl <| vE <| WP.seq <| WP.region <| v0 (S0.move rfl) rfl <| ?_
  refine vcd (S1.callF rfl (count_spec h) (take1 at0 take0)) rfl ?_
  refine vcd (S1.callF rfl (hds) take0) rfl ?_
  refine v0 (S0.move rfl) rfl <| ?_
  refine vc (S1.callF rfl (bmarks_spec h ho) (take1 at0 take0)) rfl ?_
  rintro u1 _ ⟨q1, hs1, rfl⟩
  refine app ?_
  refine vcd (S1.callF rfl (rmarks_spec hs1 (by omega)) (take1 at0 take0)) rfl ?_
  refine v0 (S0.addS rfl rfl (by omega)) rfl <| ?_
  refine v0 (S0.assign rfl) rfl <| vE <| WP.seq <| WP.region <| v0 (S0.move rfl) rfl <| ?_
  refine vc (S1.callF rfl (hls) (take1 (atS at0) take0)) rfl ?_
  rintro u2 _ ⟨q2, hs2, rfl⟩
  refine app ?_
  obtain ⟨a, cap, rfl, hcap, hrow⟩ := IsSl.elems (k := 4) evB_len hs2
  refine v0 (S0.assign rfl) rfl <| vE <| WP.seq <| WP.seq <| WP.region <| v0 (S0.assign rfl) rfl <| vE <| WP.block <| ?_
  rw [show digB 9 b.n ++ marksB b.M = digB 9 b.n ++ marksB b.M ++ (E.take 0).flatMap putE by simp]
  refine WP.loop (fun st : Nat => st ≤ E.length) (fun st : Nat => [(3, sv (digB 9 b.n ++ marksB b.M ++ (E.take st).flatMap putE)), (4, .slice a E.length cap), (5, .int .i64 (st : Int))]) (fun st : Nat => [q2, cc]) (fun st : Nat => E.length - st) (0) (Nat.zero_le _) ⟨rfl, rfl, rfl, trivial⟩ ⟨_, (take1 at0 (take1 at0 take0))⟩ (fun st hinv => ?_)
  dsimp only at hinv ⊢
  refine WP.seq <| WP.seq <| WP.region <| v0 (S0.move rfl) rfl <| v0 (S0.move rfl) rfl <| v0 (S0.lenSl rfl) rfl <| v0 (S0.cmp rfl rfl rfl) rfl <| vE <| ?_
  first | refine WP.condP rfl (fun h1 => ?_) (fun h1 => ?_) | refine WP.condN rfl (fun h1 => ?_) (fun h1 => ?_) | refine WP.cond rfl (fun h1 => ?_) (fun h1 => ?_)
  · have hlt : st < E.length := by omega
    rcases hrow with ⟨e, -⟩ | ⟨b1, sp1, rfl, rfl, hsp1⟩
    · rw [e] at hlt; simp at hlt
    have hx : E[st]? = some E[st] := by simp [hlt]
    have hxr := hev _ (List.getElem_mem hlt)
    generalize E[st] = x at hx hxr
    have gE : ((evsB E ++ sp1).drop (st * 5)).take 5 = evB x := flat_take evB_len sp1 E st x hx
    have hxl := putE_le hxr
    have htl : ((E.take st).flatMap putE).length ≤ 300 * 64 := by
      have := putEs_le (l := E.take st) fun e he => hev e (List.mem_of_mem_take he)
      have h2 : (E.take st).length ≤ 64 := by rw [List.length_take]; omega
      exact Nat.le_trans this (Nat.mul_le_mul_left _ h2)
    have htk := take_one hx
    obtain ⟨x1, x2, x3, x4, x5⟩ := x
    obtain ⟨ht3, ht4⟩ := right_tl hxr
    dsimp only at ht3 ht4
    refine WP.skip <| WP.seq <| WP.block <| WP.region <| v0 (S0.move rfl) rfl <| v0 (S0.move rfl) rfl <| v0 (S0.move rfl) rfl <| ?_
    refine v0 (S0.indexN (k := 5) rfl rfl hlt) rfl <| ?_
    refine v0 (S0.loadA rfl gE rfl) rfl <| ?_
    refine vcd (S1.callF rfl (reput_spec (e := ⟨x1, x2, x3, x4, x5⟩) (show x3.length ≤ 900000 by omega) (show x4.length ≤ 900000 by omega)) take0) rfl ?_
    refine v0 (S0.addS rfl rfl (by simp only [List.length_append]; omega)) rfl <| ?_
    rw [List.append_assoc _ _ (putE _), show (E.take st).flatMap putE ++ putE ⟨x1, x2, x3, x4, x5⟩ = (E.take (st + 1)).flatMap putE by rw [htk, List.flatMap_append]; simp]
    refine v0 (S0.assign rfl) rfl <| vE <| WP.region <| v0 (S0.move rfl) rfl <| v0 (S0.ari rfl rfl rfl (wrap_i64 (by omega))) rfl <| v0 (S0.assign rfl) rfl <| vE <| ?_
    exact ⟨st + 1, (by first | exact hlt | (dsimp only; exact hlt)), (show E.length - (st + 1) < E.length - st by omega), ⟨⟨rfl, rfl, rfl, trivial⟩, rfl, rfl⟩, ⟨_, (take1 at0 (take1 at0 take0))⟩⟩
  · have h9 : st = E.length := by omega
    subst h9
    rw [List.take_length]
    refine WP.exit <| WP.seq <| WP.region <| v0 (S0.move rfl) rfl <| v0 (S0.assign rfl) rfl <| vE <| WP.ret <| ?_
    refine Leaves.drop (take1 (atS at0) take0) ?_
    refine r1 rfl rfl ⟨?_, rfl⟩
    simp
end Go.Proofs.YtjpjebfodhbdfaaGreatDoor
namespace Go.Proofs.YtjpjebfodhbdfaaGreatDoor
open Go
end Go.Proofs.YtjpjebfodhbdfaaGreatDoor
namespace Go.Proofs.YtjpjebfodhbdfaaGreatDoor
open Go
end Go.Proofs.YtjpjebfodhbdfaaGreatDoor
namespace Go.Proofs.YtjpjebfodhbdfaaGreatDoor
open Go
theorem ageE_val {e : Ev} {n : Int} (hn : 1 ≤ n) : ageE e n = { e with e := if e.e ≤ n then 0 else e.e - n } := by
  unfold ageE
  rw [if_neg (by omega)]
  by_cases h : e.e ≤ n
  · rw [if_pos h, if_pos h]
  · rw [if_neg h, if_neg h]
theorem ageE_pos {e : Ev} {n : Int} (hn : 1 ≤ n) : 0 < (ageE e n).e ↔ n < e.e := by
  rw [ageE_val hn]
  dsimp only
  split <;> omega
theorem ageE_add {e : Ev} {x y : Int} (hx : 1 ≤ x) (hy : 1 ≤ y) (h : x < e.e) : ageE (ageE e x) y = ageE e (x + y) := by
  have h0 : (if e.e ≤ x then (0 : Int) else e.e - x) = e.e - x := if_neg (by omega)
  rw [ageE_val hx, h0, ageE_val hy, ageE_val (show 1 ≤ x + y by omega)]
  have h1 : (if e.e - x ≤ y then (0 : Int) else e.e - x - y) = if e.e ≤ x + y then 0 else e.e - (x + y) := by
    by_cases h2 : e.e ≤ x + y
    · rw [if_pos h2, if_pos (by omega)]
    · rw [if_neg h2, if_neg (by omega)]; omega
  dsimp only
  rw [h1]
theorem ageL_add {L : List (Nat × Ev)} {x y : Int} (hx : 1 ≤ x) (hy : 1 ≤ y) : ageL (ageL L x) y = ageL L (x + y) := by
  unfold ageL
  induction L with
  | nil => rfl
  | cons z L ih =>
    simp only [List.map_cons, List.filter_cons]
    by_cases h1 : x < z.2.e
    · rw [if_pos (decide_eq_true ((ageE_pos hx).2 h1))]
      simp only [List.map_cons, List.filter_cons]
      rw [ageE_add hx hy h1, ih]
    · have n1 : ¬ 0 < (ageE z.2 x).e := fun h => h1 ((ageE_pos hx).1 h)
      have n2 : ¬ 0 < (ageE z.2 (x + y)).e := fun h => h1 (by have := (ageE_pos (e := z.2) (n := x + y) (by omega)).1 h; omega)
      rw [decide_eq_false n1, decide_eq_false n2]
      simpa using ih
theorem tick_add {b : Ct} {G G' : Lg} {D D' : Dk} {x y : Int} (hx : 1 ≤ x ∧ x ≤ 256) (hy : 1 ≤ y ∧ y ≤ 256) : (tickBk (tickBk b G D x).2.1 (tickBk b G D x).2.2.1 (tickBk b G D x).2.2.2 y).2.1 = (tickBk b G' D' (x + y)).2.1 := by
  rw [(tick_one _ _ _ y).2, (tick_one b G D x).2, (tick_one b G' D' (x + y)).2, if_neg (by omega), if_neg (by omega), if_neg (by omega)]
  unfold ageK
  rw [ageL_add hx.1 hy.1]
structure StA where
  i : Nat
  b : Ct
  G : Lg
  D : Dk
  cc : List Blk
  lc : List Blk
  dc : List Blk
  cc2 : List Blk
  lc2 : List Blk
  dc2 : List Blk
set_option maxRecDepth 100000 in
set_option maxHeartbeats 4000000 in
theorem bookAgain_walk (W : World) (lv : Value) (hl : ArgF W opK lv) (n0 m0 : Int) : FN Tryz.prog 6 [lv, .int .i64 n0, .int .i64 m0] [whole W] (fun v h => v = .bool true ∧ h = [whole W]) := by
  obtain ⟨l0, hrl⟩ := argOps hl
  have hll := cutOs_len l0
  have hlx := cutOs_mem (l := l0)
  obtain ⟨n, hn⟩ : ∃ z, bitsI .and .i64 n0 255 = some z := ⟨_, rfl⟩
  obtain ⟨m, hm⟩ : ∃ z, bitsI .and .i64 m0 255 = some z := ⟨_, rfl⟩
  have hnm := mask_i64 hn (by decide)
  have hmm := mask_i64 hm (by decide)
  refine FN.intro 130 [(0, lv), (1, .int .i64 n0), (2, .int .i64 m0)] Tryz.func6 rfl (enters Tryz.func6 (by kernel_rfl) rfl) Tryz.ntmps6 rfl rfl ?_
  refine WP.seq <| WP.region <| v0 (S0.assign rfl) rfl <| vE <| WP.seq <| WP.region <| v0 (S0.move rfl) rfl <| ?_
  refine vc (S1.callF rfl (cut_spec hrl) (take1 at0 take0)) rfl ?_
  rintro _ _ ⟨row, hs, rfl⟩
  refine app ?_
  generalize cutOs l0 = M at hll hlx hs
  obtain ⟨ma, mcap, rfl, hmcap, hrow⟩ := IsSl.elems (k := 6) enO_len hs
  refine vc (S1.callF rfl (new_spec) take0) rfl ?_
  rintro _ _ ⟨db, dc0, rfl, hd0, rfl⟩
  refine app ?_
  refine v0 (S0.assign rfl) rfl <| v0 (S0.assign rfl) rfl <| vE <| WP.seq <| WP.region <| ?_
  refine vc (S1.callF rfl (new_spec) take0) rfl ?_
  rintro _ _ ⟨ob, oc0, rfl, ho0, rfl⟩
  refine app ?_
  refine v0 (S0.assign rfl) rfl <| vE <| WP.seq <| WP.region <| v0 (S0.move rfl) rfl <| ?_
  refine vc (S1.callF rfl (bopen_good hd0 DkG.z (by simp) o0 (.inl rfl)) (take1 (atS at0) take0)) rfl ?_
  rintro _ _ ⟨bb, lb, cc0, lc0, dc1, hc0, hl0, hd1, rfl, rfl⟩
  refine app ?_
  refine v0 (S0.move rfl) rfl <| v0 (S0.extract rfl rfl) rfl <| v0 (S0.extract rfl rfl) rfl <| v0 (S0.assign rfl) rfl <| v0 (S0.assign rfl) rfl <| vE <| WP.seq <| WP.region <| v0 (S0.move rfl) rfl <| ?_
  refine vc (S1.callF rfl (bopen_good ho0 DkG.z (by simp) o0 (.inl rfl)) (take1 (atS (atS (atS at0))) take0)) rfl ?_
  rintro _ _ ⟨cb, kb, kc0, klc0, oc1, hk0, hkl0, ho1, rfl, rfl⟩
  refine app ?_
  refine v0 (S0.move rfl) rfl <| v0 (S0.extract rfl rfl) rfl <| v0 (S0.extract rfl rfl) rfl <| v0 (S0.assign rfl) rfl <| v0 (S0.assign rfl) rfl <| vE <| WP.seq <| WP.seq <| WP.region <| v0 (S0.move rfl) rfl <| v0 (S0.nilP rfl rfl rfl rfl) rfl <| v0 (S0.move rfl) rfl <| ?_
  refine csFh (t := 35) rfl ((by simp)) ?_
  refine gT rfl <| v0 (S0.move rfl) rfl <| gT rfl <| v0 (S0.nilP rfl rfl rfl rfl) rfl <| v0 (S0.pickF rfl rfl) rfl <| v0 (S0.move rfl) rfl <| ?_
  refine csFh (t := 39) rfl ((by simp)) ?_
  refine gT rfl <| v0 (S0.move rfl) rfl <| gT rfl <| v0 (S0.cmp rfl rfl rfl) rfl <| v0 (S0.pickF rfl rfl) rfl <| v0 (S0.move rfl) rfl <| ?_
  refine csFh (t := 43) rfl ((by simp)) ?_
  refine gT rfl <| v0 (S0.move rfl) rfl <| gT rfl <| v0 (S0.cmp rfl rfl rfl) rfl <| v0 (S0.pickF rfl rfl) rfl <| vE <| ?_
  refine WP.condFh rfl ((by simp)) ?_
  refine WP.skip <| WP.seq <| WP.seq <| WP.region <| v0 (S0.assign rfl) rfl <| vE <| WP.block <| ?_
  refine WP.loop (fun st : StA => st.i ≤ M.length ∧ IsCt bb lb st.b st.cc ∧ IsLog lb db st.G st.lc ∧ IsDisk db st.D st.dc ∧ IsCt cb kb st.b st.cc2 ∧ IsLog kb ob st.G st.lc2 ∧ IsDisk ob st.D st.dc2 ∧ Good (fun _ => True) st.i st.b st.G st.D) (fun st : StA => [(1, .int .i64 n0), (2, .int .i64 m0), (7, .slice ma M.length mcap), (8, ptrB db), (10, ptrB bb), (12, ptrB cb), (14, .int .i64 (st.i : Int))]) (fun st : StA => [st.cc, st.lc, st.dc, st.cc2, st.lc2, st.dc2, row, whole W]) (fun st : StA => M.length - st.i) (StA.mk 0 ct0 g0 dk0 cc0 lc0 dc1 kc0 klc0 oc1) (⟨Nat.zero_le _, hc0, hl0, hd1, hk0, hkl0, ho1, Good.z.mono (by simp) fun _ _ => trivial⟩) ⟨rfl, rfl, rfl, rfl, rfl, rfl, rfl, trivial⟩ ⟨_, (take1 (atS (atS (atS at0))) (take1 (atS (atS (atS at0))) (take1 (atS (atS (atS at0))) (take1 at0 (take1 at0 (take1 at0 (take1 at0 (take1 at0 take0))))))))⟩ (fun st hinv => ?_)
  obtain ⟨i, b, G, D, cc, lc, dc, kc, klc, oc⟩ := st
  obtain ⟨hi, hc, hlg, hd, hk, hkl, ho, hg⟩ := hinv
  dsimp only at hi hc hlg hd hk hkl ho hg ⊢
  have hro : Rooms b G D := hg.rooms (by omega)
  refine WP.seq <| WP.seq <| WP.region <| v0 (S0.move rfl) rfl <| v0 (S0.move rfl) rfl <| v0 (S0.lenSl rfl) rfl <| v0 (S0.cmp rfl rfl rfl) rfl <| vE <| ?_
  first | refine WP.condP rfl (fun h1 => ?_) (fun h1 => ?_) | refine WP.condN rfl (fun h1 => ?_) (fun h1 => ?_) | refine WP.cond rfl (fun h1 => ?_) (fun h1 => ?_)
  · have hlt : i < M.length := by omega
    rcases hrow with ⟨e, -⟩ | ⟨b1, sp1, rfl, rfl, hsp1⟩
    · rw [e] at hlt; simp at hlt
    have hx : M[i]? = some M[i] := by simp [hlt]
    have hxl := hlx _ (List.getElem_mem hlt)
    generalize M[i] = x at hx hxl
    have gk := flat_get enO_len sp1 M i 0 x hx (by decide)
    have gn := flat_get enO_len sp1 M i 6 x hx (by decide)
    have ge := op_ev sp1 hx
    refine WP.skip <| WP.seq <| WP.block <| WP.seq <| WP.region <| v0 (S0.move rfl) rfl <| v0 (S0.move rfl) rfl <| ?_
    refine v0 (S0.indexN (k := 7) rfl rfl hlt) rfl <| ?_
    refine v0 (S0.fieldAddr rfl) rfl <| ?_
    refine v0 (S0.load (v := .int .i64 x.k) rfl gk) rfl <| ?_
    refine v0 (S0.cmp rfl rfl rfl) rfl <| vE <| ?_
    first | refine WP.condP rfl (fun k0 => ?_) (fun k0 => ?_) | refine WP.condN rfl (fun k0 => ?_) (fun k0 => ?_) | refine WP.cond rfl (fun k0 => ?_) (fun k0 => ?_)
    · have hq := hg.tick (by omega) x.n (Q := fun _ => True) (fun _ _ => trivial) trivial
      refine WP.seq <| WP.region <| v0 (S0.move rfl) rfl <| v0 (S0.move rfl) rfl <| v0 (S0.move rfl) rfl <| ?_
      refine v0 (S0.indexN (k := 7) rfl rfl hlt) rfl <| ?_
      refine v0 (S0.fieldAddr rfl) rfl <| ?_
      refine v0 (S0.load (v := .int .i64 x.n) rfl gn) rfl <| ?_
      refine vc (S1.callF rfl (btick_spec hro hc hlg hd x.n) (take1 at0 (take1 at0 (take1 at0 take0)))) rfl ?_
      rintro _ _ ⟨cc2, lc2, dc2, rfl, hc2, hl2, hd2, rfl⟩
      refine app ?_
      refine vE <| WP.region <| v0 (S0.move rfl) rfl <| v0 (S0.move rfl) rfl <| v0 (S0.move rfl) rfl <| ?_
      refine v0 (S0.indexN (k := 7) rfl rfl hlt) rfl <| ?_
      refine v0 (S0.fieldAddr rfl) rfl <| ?_
      refine v0 (S0.load (v := .int .i64 x.n) rfl gn) rfl <| ?_
      refine vc (S1.callF rfl (btick_spec hro hk hkl ho x.n) (take1 (atS (atS (atS at0))) (take1 (atS (atS (atS at0))) (take1 (atS (atS (atS at0))) take0)))) rfl ?_
      rintro _ _ ⟨kc2, klc2, oc2, rfl, hk2, hkl2, ho2, rfl⟩
      refine app ?_
      refine vE <| WP.region <| v0 (S0.move rfl) rfl <| v0 (S0.ari rfl rfl rfl (wrap_i64 (by omega))) rfl <| v0 (S0.assign rfl) rfl <| vE <| ?_
      exact ⟨StA.mk (i + 1) (tickBk b G D x.n).2.1 (tickBk b G D x.n).2.2.1 (tickBk b G D x.n).2.2.2 cc2 lc2 dc2 kc2 klc2 oc2, (by first | exact ⟨hlt, hc2, hl2, hd2, hk2, hkl2, ho2, hq⟩ | (dsimp only; exact ⟨hlt, hc2, hl2, hd2, hk2, hkl2, ho2, hq⟩)), (show M.length - (i + 1) < M.length - i by omega), ⟨⟨rfl, rfl, rfl, rfl, rfl, rfl, rfl, trivial⟩, rfl, rfl⟩, ⟨_, (take1 (atS (atS (atS at0))) (take1 (atS (atS (atS at0))) (take1 (atS (atS (atS at0))) (take1 at0 (take1 at0 (take1 at0 (take1 at0 (take1 at0 take0))))))))⟩⟩
    · have hq := hg.put (by omega) x.e (Q := fun _ => True) (fun _ _ => trivial) trivial
      refine WP.seq <| WP.region <| v0 (S0.move rfl) rfl <| v0 (S0.move rfl) rfl <| v0 (S0.move rfl) rfl <| ?_
      refine v0 (S0.indexN (k := 7) rfl rfl hlt) rfl <| ?_
      refine v0 (S0.fieldAddr rfl) rfl <| ?_
      refine v0 (S0.loadA rfl ge rfl) rfl <| ?_
      refine vc (S1.callF rfl (bput_spec hro hc hlg hd (e := x.e) (by omega) (by omega)) (take1 at0 (take1 at0 (take1 at0 take0)))) rfl ?_
      rintro _ _ ⟨cc2, lc2, dc2, rfl, hc2, hl2, hd2, rfl⟩
      refine app ?_
      refine vE <| WP.region <| v0 (S0.move rfl) rfl <| v0 (S0.move rfl) rfl <| v0 (S0.move rfl) rfl <| ?_
      refine v0 (S0.indexN (k := 7) rfl rfl hlt) rfl <| ?_
      refine v0 (S0.fieldAddr rfl) rfl <| ?_
      refine v0 (S0.loadA rfl ge rfl) rfl <| ?_
      refine vc (S1.callF rfl (bput_spec hro hk hkl ho (e := x.e) (by omega) (by omega)) (take1 (atS (atS (atS at0))) (take1 (atS (atS (atS at0))) (take1 (atS (atS (atS at0))) take0)))) rfl ?_
      rintro _ _ ⟨kc2, klc2, oc2, rfl, hk2, hkl2, ho2, rfl⟩
      refine app ?_
      refine vE <| WP.region <| v0 (S0.move rfl) rfl <| v0 (S0.ari rfl rfl rfl (wrap_i64 (by omega))) rfl <| v0 (S0.assign rfl) rfl <| vE <| ?_
      exact ⟨StA.mk (i + 1) (putBk b G D x.e).2.1 (putBk b G D x.e).2.2.1 (putBk b G D x.e).2.2.2 cc2 lc2 dc2 kc2 klc2 oc2, (by first | exact ⟨hlt, hc2, hl2, hd2, hk2, hkl2, ho2, hq⟩ | (dsimp only; exact ⟨hlt, hc2, hl2, hd2, hk2, hkl2, ho2, hq⟩)), (show M.length - (i + 1) < M.length - i by omega), ⟨⟨rfl, rfl, rfl, rfl, rfl, rfl, rfl, trivial⟩, rfl, rfl⟩, ⟨_, (take1 (atS (atS (atS at0))) (take1 (atS (atS (atS at0))) (take1 (atS (atS (atS at0))) (take1 at0 (take1 at0 (take1 at0 (take1 at0 (take1 at0 take0))))))))⟩⟩
  · have hq1 := hg.tick (by omega) (1 + n) (Q := fun _ => True) (fun _ _ => trivial) trivial
    have hq2 := hq1.tick (by omega) (1 + m) (Q := fun _ => True) (fun _ _ => trivial) trivial
    have hq3 := hg.tick (by omega) ((1 + n) + (1 + m)) (Q := fun _ => True) (fun _ _ => trivial) trivial
    have hadd := tick_add (b := b) (G := G) (D := D) (G' := G) (D' := D) (x := 1 + n) (y := 1 + m) (by omega) (by omega)
    obtain ⟨G', D', e1, -, e3, hq⟩ := hq2.again (by omega)
    refine WP.exit <| WP.seq <| WP.region <| v0 (S0.move rfl) rfl <| ?_
    refine v0 (S0.bits rfl rfl hn) rfl <| ?_
    refine v0 (S0.ari rfl rfl rfl (wrap_i64 (by omega))) rfl <| v0 (S0.move rfl) rfl <| ?_
    refine v0 (S0.bits rfl rfl hm) rfl <| ?_
    refine v0 (S0.ari rfl rfl rfl (wrap_i64 (by omega))) rfl <| v0 (S0.assign rfl) rfl <| v0 (S0.assign rfl) rfl <| vE <| WP.seq <| WP.region <| v0 (S0.move rfl) rfl <| v0 (S0.move rfl) rfl <| ?_
    refine vc (S1.callF rfl (btick_spec hro hc hlg hd (1 + n)) (take1 at0 (take1 at0 (take1 at0 take0)))) rfl ?_
    rintro _ _ ⟨cc2, lc2, dc2, rfl, hc2, hl2, hd2, rfl⟩
    refine app ?_
    refine vE <| WP.seq <| WP.region <| v0 (S0.move rfl) rfl <| v0 (S0.move rfl) rfl <| ?_
    refine vc (S1.callF rfl (btick_spec (hq1.rooms (by omega)) hc2 hl2 hd2 (1 + m)) (take1 at0 (take1 at0 (take1 at0 take0)))) rfl ?_
    rintro _ _ ⟨cc3, lc3, dc3, rfl, hc3, hl3, hd3, rfl⟩
    refine app ?_
    refine vE <| WP.seq <| WP.region <| v0 (S0.move rfl) rfl <| v0 (S0.move rfl) rfl <| v0 (S0.move rfl) rfl <| v0 (S0.ari rfl rfl rfl (wrap_i64 (by omega))) rfl <| ?_
    refine vc (S1.callF rfl (btick_spec hro hk hkl ho ((1 + n) + (1 + m))) (take1 (atS (atS (atS at0))) (take1 (atS (atS (atS at0))) (take1 (atS (atS (atS at0))) take0)))) rfl ?_
    rintro _ _ ⟨kc2, klc2, oc2, rfl, hk2, hkl2, ho2, rfl⟩
    refine app ?_
    refine vE <| WP.seq <| WP.region <| v0 (S0.move rfl) rfl <| ?_
    have hr2 : Rooms _ _ _ := hq2.rooms (by omega)
    refine vc (S1.callF rfl (bopen_good hd3 hr2.k (by have := hr2.W; omega) e1 e3) (take1 (atS (atS (atS (atS (atS at0))))) take0)) rfl ?_
    rintro _ _ ⟨bb4, lb4, cc4, lc4, dc4, hc4, hl4, hd4, rfl, rfl⟩
    refine app ?_
    refine v0 (S0.move rfl) rfl <| v0 (S0.extract rfl rfl) rfl <| v0 (S0.extract rfl rfl) rfl <| v0 (S0.assign rfl) rfl <| v0 (S0.assign rfl) rfl <| vE <| WP.seq <| WP.seq <| WP.region <| v0 (S0.move rfl) rfl <| v0 (S0.nilP rfl rfl rfl rfl) rfl <| v0 (S0.move rfl) rfl <| ?_
    refine csFh (t := 111) rfl ((by simp)) ?_
    refine gT rfl <| v0 (S0.move rfl) rfl <| gT rfl <| v0 (S0.cmp rfl rfl rfl) rfl <| v0 (S0.pickF rfl rfl) rfl <| vE <| ?_
    refine WP.condFh rfl ((by simp)) ?_
    refine WP.skip <| WP.seq <| WP.region <| v0 (S0.move rfl) rfl <| ?_
    have hn2 := hq2.sv.bn
    have hn3 := hq3.sv.bn
    refine vcd (S1.callF rfl (state_spec hc4 hr2.w (by omega)) (take1 at0 take0)) rfl ?_
    refine v0 (S0.move rfl) rfl <| ?_
    refine vcd (S1.callF rfl (state_spec hc3 hr2.w (by omega)) (take1 (atS (atS (atS (atS (atS (atS at0)))))) take0)) rfl ?_
    refine v0 (S0.cmpS rfl rfl rfl) rfl <| v0 (S0.move rfl) rfl <| ?_
    refine csTh (t := 120) rfl ((by simp)) ?_
    refine gT rfl <| v0 (S0.move rfl) rfl <| ?_
    refine gT rfl <| vcd (S1.callF rfl (state_spec hc3 hr2.w (by omega)) (take1 at0 take0)) rfl ?_
    refine gT rfl <| v0 (S0.move rfl) rfl <| ?_
    rw [← hadd] at hk2 hn3
    refine gT rfl <| vcd (S1.callF rfl (state_spec hk2 hr2.w (by omega)) (take1 (atS (atS (atS (atS at0)))) take0)) rfl ?_
    refine gT rfl <| v0 (S0.cmpS rfl rfl rfl) rfl <| v0 (S0.pickT rfl rfl) rfl <| v0 (S0.move rfl) rfl <| ?_
    refine csTh (t := 127) rfl ((by simp)) ?_
    refine gT rfl <| vcd (S1.callF rfl (fixed_spec) take0) rfl ?_
    refine v0 (S0.pickT rfl rfl) rfl <| v0 (S0.assign rfl) rfl <| vE <| WP.ret <| ?_
    refine Leaves.drop (take1 (atS (atS (atS (atS (atS (atS (atS (atS (atS at0))))))))) take0) ?_
    refine r1 rfl rfl ?_
    exact ⟨rfl, rfl⟩
end Go.Proofs.YtjpjebfodhbdfaaGreatDoor
namespace Go.Proofs.YtjpjebfodhbdfaaGreatDoor
open Go
def u8s (l : List Nat) : Array Value := (l.map fun (n : Nat) => Value.int .u8 n).toArray
def acceptZ : List Nat := [128, 191, 160, 191, 128, 159, 144, 191, 128, 143, 0, 0, 0, 0, 0, 0, 0, 0, 0, 0, 0, 0, 0, 0, 0, 0, 0, 0, 0, 0, 0, 0]
noncomputable def laidWorld (os : Os) : World :=
  let w0 := World.holding Tryz.prog os ⟨#[], #[], []⟩
  { w0 with heap := (w0.heap.modify 1 fun
      | .cells _ t frozen => .cells (u8s acceptZ) t frozen
      | o => o).modify 0 fun
      | .cells _ t frozen => .cells (u8s Go.Pinned.utf8FirstZ) t frozen
      | o => o }
abbrev laidList : List (String × DataW Unit) := [("unicode/utf8.acceptRanges", Rows.laid_unicode_utf8_acceptRanges), ("unicode/utf8.first", Rows.laid_unicode_utf8_first)]
set_option maxRecDepth 100000 in
theorem laidWorld_met (os : Os) (args : Array Value) : laidMetH Tryz.prog laidList ((laidWorld os).forCall (fun _ _ => 0) ⟨#[], args, []⟩).memory :=
  laidMetH_of_parts (laidMet_of_run' 100 (by kernel_rfl) (by kernel_rfl)) (by kernel_rfl)
end Go.Proofs.YtjpjebfodhbdfaaGreatDoor
