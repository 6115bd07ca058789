import Derived.Test.YtjpjebfodhbdfaaGreatDoorMg4
import Derived.Test.YtjpjebfodhbdfaaGreatDoorRows
import Derived.Test.YtjpjebfodhbdfaaGreatDoorMg2
import Derived.ChangeVars
import Derived.JoinedOf
import Derived.LaidLaws
import Derived.LaidHandle
import Derived.SizedLaws
set_option linter.unusedSimpArgs false
set_option linter.unusedVariables false
set_option linter.unnecessarySimpa false
namespace Go.Proofs.YtjpjebfodhbdfaaGreatDoor
open Go
abbrev evL (b : Ct) : List Ev := b.L.map (·.2)
def stB (b : Ct) : Str := digB 9 b.n ++ marksB b.M ++ (evL b).flatMap putE
theorem evL_right {b : Ct} (h : CtW b) : ∀ e ∈ evL b, rightE e = true := fun e he => by
  obtain ⟨x, hx, rfl⟩ := List.mem_map.1 he
  exact (h.ev x hx).1
theorem putEs_le : ∀ {l : List Ev}, (∀ e ∈ l, rightE e = true) → (l.flatMap putE).length ≤ 300 * l.length
  | [], _ => by simp
  | e :: l, h => by
    have h1 := putE_le (h e (by simp))
    have h2 := putEs_le fun x hx => h x (List.mem_cons_of_mem _ hx)
    simp only [List.flatMap_cons, List.length_append, List.length_cons]
    omega
theorem state_spec {bb lb : Nat} {b : Ct} {cc : List Blk} (h : IsCt bb lb b cc) (ho : CtW b) (hn : b.n ≤ 1000000) : FN Tryz.prog 30 [ptrB bb] [cc] (is (sv (stB b)) [cc]) := by
  have hml := ho.ris.2
  have hlen := ho.len
  have hd := digB_len 9 b.n
  have hmb := mksB_le b.M
  have hev := evL_right ho
  have hel : (evL b).length = b.L.length := List.length_map _
  have hds : FN Tryz.prog 73 [.int .i64 (b.n : Int)] [] (is (sv (digB 9 b.n)) []) := digits_spec 8 b.n (by decide) (Nat.lt_of_le_of_lt hn (by decide)) (by omega)
  have hls := list_spec h ho
  unfold stB
  change FN _ _ _ _ (fun u h => ∃ row, IsSl 41 5 u (evsB (evL b)) row ∧ h = [row, cc]) at hls
  generalize evL b = E at hev hel hls ⊢
  refine FN.intro 29 [(0, ptrB bb)] Tryz.func30 rfl (enters Tryz.func30 (by kernel_rfl) rfl) Tryz.ntmps30 rfl rfl ?_
  refine WP.seq <| WP.region <| v0 (S0.assign rfl) rfl <| vE <| WP.seq <| WP.region <| v0 (S0.move rfl) rfl <| ?_
  refine vcd (S1.callF rfl (count_spec h) (take1 at0 take0)) rfl ?_
  refine vcd (S1.callF rfl (hds) take0) rfl ?_
  refine v0 (S0.move rfl) rfl <| ?_
  refine vc (S1.callF rfl (bmarks_spec h ho) (take1 at0 take0)) rfl ?_
  rintro u1 _ ⟨q1, hs1, rfl⟩
  refine app ?_
  refine vcd (S1.callF rfl (rmarks_spec hs1 (by omega)) (take1 at0 take0)) rfl ?_
  refine v0 (S0.addS rfl rfl (by omega)) rfl <| ?_
  refine v0 (S0.assign rfl) rfl <| vE <| WP.seq <| WP.region <| v0 (S0.move rfl) rfl <| ?_
  refine vc (S1.callF rfl (hls) (take1 (atS at0) take0)) rfl ?_
  rintro u2 _ ⟨q2, hs2, rfl⟩
  refine app ?_
  obtain ⟨a, cap, rfl, hcap, hrow⟩ := IsSl.elems (k := 4) evB_len hs2
  refine v0 (S0.assign rfl) rfl <| vE <| WP.seq <| WP.seq <| WP.region <| v0 (S0.assign rfl) rfl <| vE <| WP.block <| ?_
  rw [show digB 9 b.n ++ marksB b.M = digB 9 b.n ++ marksB b.M ++ (E.take 0).flatMap putE by simp]
  refine WP.loop (fun st : Nat => st ≤ E.length) (fun st : Nat => [(3, sv (digB 9 b.n ++ marksB b.M ++ (E.take st).flatMap putE)), (4, .slice a E.length cap), (5, .int .i64 (st : Int))]) (fun st : Nat => [q2, cc]) (fun st : Nat => E.length - st) (0) (Nat.zero_le _) ⟨rfl, rfl, rfl, trivial⟩ ⟨_, (take1 at0 (take1 at0 take0))⟩ (fun st hinv => ?_)
  dsimp only at hinv ⊢
  refine WP.seq <| WP.seq <| WP.region <| v0 (S0.move rfl) rfl <| v0 (S0.move rfl) rfl <| v0 (S0.lenSl rfl) rfl <| v0 (S0.cmp rfl rfl rfl) rfl <| vE <| ?_
  first | refine WP.condP rfl (fun h1 => ?_) (fun h1 => ?_) | refine WP.condN rfl (fun h1 => ?_) (fun h1 => ?_) | refine WP.cond rfl (fun h1 => ?_) (fun h1 => ?_)
  · have hlt : st < E.length := by omega
    rcases hrow with ⟨e, -⟩ | ⟨b1, sp1, rfl, rfl, hsp1⟩
    · rw [e] at hlt; simp at hlt
    have hx : E[st]? = some E[st] := by simp [hlt]
    have hxr := hev _ (List.getElem_mem hlt)
    generalize E[st] = x at hx hxr
    have gE : ((evsB E ++ sp1).drop (st * 5)).take 5 = evB x := flat_take evB_len sp1 E st x hx
    have hxl := putE_le hxr
    have htl : ((E.take st).flatMap putE).length ≤ 300 * 64 := by
      have := putEs_le (l := E.take st) fun e he => hev e (List.mem_of_mem_take he)
      have h2 : (E.take st).length ≤ 64 := by rw [List.length_take]; omega
      exact Nat.le_trans this (Nat.mul_le_mul_left _ h2)
    have htk := take_one hx
    obtain ⟨x1, x2, x3, x4, x5⟩ := x
    obtain ⟨ht3, ht4⟩ := right_tl hxr
    dsimp only at ht3 ht4
    refine WP.skip <| WP.seq <| WP.block <| WP.region <| v0 (S0.move rfl) rfl <| v0 (S0.move rfl) rfl <| v0 (S0.move rfl) rfl <| ?_
    refine v0 (S0.indexN (k := 5) rfl rfl hlt) rfl <| ?_
    refine v0 (S0.loadA rfl gE rfl) rfl <| ?_
    refine vcd (S1.callF rfl (reput_spec (e := ⟨x1, x2, x3, x4, x5⟩) (show x3.length ≤ 900000 by omega) (show x4.length ≤ 900000 by omega)) take0) rfl ?_
    refine v0 (S0.addS rfl rfl (by simp only [List.length_append]; omega)) rfl <| ?_
    rw [List.append_assoc _ _ (putE _), show (E.take st).flatMap putE ++ putE ⟨x1, x2, x3, x4, x5⟩ = (E.take (st + 1)).flatMap putE by rw [htk, List.flatMap_append]; simp]
    refine v0 (S0.assign rfl) rfl <| vE <| WP.region <| v0 (S0.move rfl) rfl <| v0 (S0.ari rfl rfl rfl (wrap_i64 (by omega))) rfl <| v0 (S0.assign rfl) rfl <| vE <| ?_
    exact ⟨st + 1, (by first | exact hlt | (dsimp only; exact hlt)), (show E.length - (st + 1) < E.length - st by omega), ⟨⟨rfl, rfl, rfl, trivial⟩, rfl, rfl⟩, ⟨_, (take1 at0 (take1 at0 take0))⟩⟩
  · have h9 : st = E.length := by omega
    subst h9
    rw [List.take_length]
    refine WP.exit <| WP.seq <| WP.region <| v0 (S0.move rfl) rfl <| v0 (S0.assign rfl) rfl <| vE <| WP.ret <| ?_
    refine Leaves.drop (take1 (atS at0) take0) ?_
    refine r1 rfl rfl ⟨?_, rfl⟩
    simp
end Go.Proofs.YtjpjebfodhbdfaaGreatDoor
namespace Go.Proofs.YtjpjebfodhbdfaaGreatDoor
open Go
theorem seq_put (b : Ct) (G : Lg) (D : Dk) (e : Ev) (o : Int) : seqK b o ≤ seqK (putBk b G D e).2.1 o := by
  rw [(put_one b G D e).2]
  by_cases h : whyK b e = 0
  · rw [if_pos h, seq_add]
    by_cases ho : o = e.o
    · rw [if_pos ho, ho]; have := (why_zero h).2.2.1; omega
    · rw [if_neg ho]; exact Int.le_refl _
  · rw [if_neg h]; exact Int.le_refl _
theorem seq_tick (b : Ct) (G : Lg) (D : Dk) (n : Int) (o : Int) : seqK (tickBk b G D n).2.1 o = seqK b o := by
  rw [(tick_one b G D n).2]
  split <;> rfl
theorem tmod_lt {z : Int} {m : Nat} (h : 0 ≤ z) (hm : 0 < m) : ∃ n : Nat, z.tmod m = n ∧ n < m := by
  refine ⟨(z.tmod m).toNat, ?_, ?_⟩
  · have := Int.tmod_nonneg (m : Int) h; omega
  · have := Int.tmod_lt_of_pos z (show (0 : Int) < m by omega); have := Int.tmod_nonneg (m : Int) h; omega
def Among (X : List Str) (Y : List MkT) (c : Ct) : Prop := stB c ∈ X ∧ ∀ m ∈ Y, m.2 ≤ seqK c m.1
def Amo2 (X : List Str) (Y : List MkT) (b c : Ct) : Prop := (stB c ∈ X ∨ c = b) ∧ ∀ m ∈ Y, m.2 ≤ seqK c m.1
theorem Amo2.one {X : List Str} {Y : List MkT} {b c : Ct} (h : Amo2 X Y b c) : Among (X ++ [stB b]) Y c := ⟨by
  rcases h.1 with h | rfl
  · exact List.mem_append_left _ h
  · simp, h.2⟩
structure StR where
  i : Nat
  b : Ct
  G : Lg
  D : Dk
  cc : List Blk
  lc : List Blk
  dc : List Blk
  X : List Str
  xv : Value
  xr : List Blk
  Y : List MkT
  yv : Value
  yr : List Blk
set_option maxRecDepth 100000 in
set_option maxHeartbeats 4000000 in
theorem bookRecovers_walk (W : World) (lv : Value) (hl : ArgF W opK lv) (q0 : Int) : FN Tryz.prog 4 [lv, .int .i64 q0] [whole W] (fun v h => v = .bool true ∧ h = [whole W]) := by
  obtain ⟨l0, hrl⟩ := argOps hl
  have hll := cutOs_len l0
  have hlx := cutOs_mem (l := l0)
  obtain ⟨z, hz⟩ : ∃ z, bitsI .and .i64 q0 65535 = some z := ⟨_, rfl⟩
  have hzm := mask_i64 hz (by decide)
  refine FN.intro 134 [(0, lv), (1, .int .i64 q0)] Tryz.func4 rfl (enters Tryz.func4 (by kernel_rfl) rfl) Tryz.ntmps4 rfl rfl ?_
  refine WP.seq <| WP.region <| v0 (S0.assign rfl) rfl <| vE <| WP.seq <| WP.region <| v0 (S0.move rfl) rfl <| ?_
  refine vc (S1.callF rfl (cut_spec hrl) (take1 at0 take0)) rfl ?_
  rintro _ _ ⟨row, hs, rfl⟩
  refine app ?_
  generalize cutOs l0 = M at hll hlx hs
  obtain ⟨ma, mcap, rfl, hmcap, hrow⟩ := IsSl.elems (k := 6) enO_len hs
  refine vc (S1.callF rfl (new_spec) take0) rfl ?_
  rintro _ _ ⟨db, dc0, rfl, hd0, rfl⟩
  refine app ?_
  refine v0 (S0.assign rfl) rfl <| v0 (S0.assign rfl) rfl <| vE <| WP.seq <| WP.region <| v0 (S0.move rfl) rfl <| ?_
  refine vc (S1.callF rfl (bopen_good hd0 DkG.z (by simp) o0 (.inl rfl)) (take1 at0 take0)) rfl ?_
  rintro _ _ ⟨bb, lb, cc0, lc0, dc1, hc0, hl0, hd1, rfl, rfl⟩
  refine app ?_
  refine v0 (S0.move rfl) rfl <| v0 (S0.extract rfl rfl) rfl <| v0 (S0.extract rfl rfl) rfl <| v0 (S0.assign rfl) rfl <| v0 (S0.assign rfl) rfl <| vE <| WP.seq <| WP.seq <| WP.region <| v0 (S0.move rfl) rfl <| v0 (S0.nilP rfl rfl rfl rfl) rfl <| v0 (S0.move rfl) rfl <| ?_
  refine csFh (t := 28) rfl ((by simp)) ?_
  refine gT rfl <| v0 (S0.move rfl) rfl <| gT rfl <| v0 (S0.cmp rfl rfl rfl) rfl <| v0 (S0.pickF rfl rfl) rfl <| vE <| ?_
  refine WP.condFh rfl ((by simp)) ?_
  refine WP.skip <| WP.seq <| WP.region <| v0 (S0.move rfl) rfl <| ?_
  refine vcd (S1.callF rfl (state_spec hc0 CtOk.nil.w (by decide)) (take1 at0 take0)) rfl ?_
  refine vnv (S1.buildSlice rfl (qs := [(0, _)]) rfl rfl) rfl fun b34 => vnv (S1.buildSlice rfl (qs := []) rfl rfl) rfl fun b35 => v0 (S0.assign rfl) rfl <| v0 (S0.assign rfl) rfl <| vE <| WP.seq <| WP.seq <| WP.region <| v0 (S0.assign rfl) rfl <| vE <| WP.block <| ?_
  refine WP.loop (fun st : StR => st.i ≤ M.length ∧ IsCt bb lb st.b st.cc ∧ IsLog lb db st.G st.lc ∧ IsDisk db st.D st.dc ∧ IsSl 9 1 st.xv (strs st.X) st.xr ∧ IsSl 63 2 st.yv (st.Y.flatMap enM) st.yr ∧ st.X.length ≤ st.i + 1 ∧ st.Y.length ≤ 32 ∧ Good (Among st.X st.Y) st.i st.b st.G st.D) (fun st : StR => [(1, .int .i64 q0), (5, .slice ma M.length mcap), (6, ptrB db), (7, ptrB bb), (9, st.xv), (10, st.yv), (11, .int .i64 (st.i : Int))]) (fun st : StR => [st.xr, st.yr, st.cc, st.lc, st.dc, row, whole W]) (fun st : StR => M.length - st.i) (StR.mk 0 ct0 g0 dk0 cc0 lc0 dc1 [stB ct0] _ [(b34, .cells ⟨strs [stB ct0]⟩ 9 (0, 0))] [] _ [(b35, .cells ⟨[]⟩ 63 (0, 0))]) (⟨Nat.zero_le _, hc0, hl0, hd1, IsSl.row (n := 1) (c := 1) (l := strs [stB ct0]) (sp := []) rfl rfl (Nat.le_refl _), IsSl.row (n := 0) (c := 0) (l := []) (sp := []) rfl rfl (Nat.le_refl _), by simp, by simp, Good.z.mono (Nat.le_refl _) fun c e => by subst e; exact ⟨by simp, by simp⟩⟩) ⟨rfl, rfl, rfl, rfl, rfl, rfl, rfl, trivial⟩ ⟨_, (take1 (atS at0) (take1 at0 (take1 at0 (take1 at0 (take1 at0 (take1 at0 (take1 at0 take0)))))))⟩ (fun st hinv => ?_)
  obtain ⟨i, b, G, D, cc, lc, dc, X, xv, xr, Y, yv, yr⟩ := st
  obtain ⟨hi, hc, hlg, hd, hxs, hys, hXl, hYl, hg⟩ := hinv
  dsimp only at hi hc hlg hd hxs hys hXl hYl hg ⊢
  refine WP.seq <| WP.seq <| WP.region <| v0 (S0.move rfl) rfl <| v0 (S0.move rfl) rfl <| v0 (S0.lenSl rfl) rfl <| v0 (S0.cmp rfl rfl rfl) rfl <| vE <| ?_
  first | refine WP.condP rfl (fun h1 => ?_) (fun h1 => ?_) | refine WP.condN rfl (fun h1 => ?_) (fun h1 => ?_) | refine WP.cond rfl (fun h1 => ?_) (fun h1 => ?_)
  · have hlt : i < M.length := by omega
    rcases hrow with ⟨e, -⟩ | ⟨b1, sp1, rfl, rfl, hsp1⟩
    · rw [e] at hlt; simp at hlt
    have hx : M[i]? = some M[i] := by simp [hlt]
    have hxl := hlx _ (List.getElem_mem hlt)
    generalize M[i] = x at hx hxl
    have gk := flat_get enO_len sp1 M i 0 x hx (by decide)
    have gn := flat_get enO_len sp1 M i 6 x hx (by decide)
    have ge := op_ev sp1 hx
    have hro : Rooms b G D := hg.rooms (by omega)
    refine WP.skip <| WP.seq <| WP.block <| WP.seq <| WP.seq <| WP.region <| v0 (S0.move rfl) rfl <| v0 (S0.move rfl) rfl <| ?_
    refine v0 (S0.indexN (k := 7) rfl rfl hlt) rfl <| ?_
    refine v0 (S0.fieldAddr rfl) rfl <| ?_
    refine v0 (S0.load (v := .int .i64 x.k) rfl gk) rfl <| ?_
    refine vE <| ?_
    refine WP.cutT (fun st : StR => IsCt bb lb st.b st.cc ∧ IsLog lb db st.G st.lc ∧ IsDisk db st.D st.dc ∧ IsSl 9 1 st.xv (strs st.X) st.xr ∧ IsSl 63 2 st.yv (st.Y.flatMap enM) st.yr ∧ st.X.length ≤ i + 1 ∧ st.Y.length ≤ 32 ∧ Good (Amo2 st.X st.Y st.b) (i + 1) st.b st.G st.D) (fun st : StR => [(1, .int .i64 q0), (5, .slice (some ⟨b1, 0, none⟩) M.length mcap), (6, ptrB db), (7, ptrB bb), (9, st.xv), (10, st.yv), (11, .int .i64 (i : Int))]) (fun st : StR => [st.xr, st.yr, st.cc, st.lc, st.dc, [(b1, .cells ⟨M.flatMap enO ++ sp1⟩ 43 (0, 0))], whole W]) ?_ (fun st hinv => ?_)
    · refine WP.block <| WP.seq <| WP.region <| v0 (S0.cmp rfl rfl rfl) rfl <| v0 (S0.assign rfl) rfl <| vE <| ?_
      first | refine WP.condP rfl (fun k0 => ?_) (fun k0 => ?_) | refine WP.condN rfl (fun k0 => ?_) (fun k0 => ?_) | refine WP.cond rfl (fun k0 => ?_) (fun k0 => ?_)
      · have hq := hg.put (by omega) x.e (Q := Amo2 X Y (putBk b G D x.e).2.1) (fun c h => ⟨.inl h.1, h.2⟩) ⟨.inr rfl, fun m hm => Int.le_trans (hg.pb.2 m hm) (seq_put b G D x.e m.1)⟩
        refine WP.region <| v0 (S0.move rfl) rfl <| v0 (S0.move rfl) rfl <| v0 (S0.move rfl) rfl <| ?_
        refine v0 (S0.indexN (k := 7) rfl rfl hlt) rfl <| ?_
        refine v0 (S0.fieldAddr rfl) rfl <| ?_
        refine v0 (S0.loadA rfl ge rfl) rfl <| ?_
        refine vc (S1.callF rfl (bput_spec hro hc hlg hd (e := x.e) (by omega) (by omega)) (take1 (atS (atS at0)) (take1 (atS (atS at0)) (take1 (atS (atS at0)) take0)))) rfl ?_
        rintro _ _ ⟨cc2, lc2, dc2, rfl, hc2, hl2, hd2, rfl⟩
        refine app ?_
        refine vE <| ?_
        exact ⟨StR.mk i (putBk b G D x.e).2.1 (putBk b G D x.e).2.2.1 (putBk b G D x.e).2.2.2 cc2 lc2 dc2 X xv xr Y yv yr, (by first | exact ⟨hc2, hl2, hd2, hxs, hys, hXl, hYl, hq⟩ | (dsimp only; exact ⟨hc2, hl2, hd2, hxs, hys, hXl, hYl, hq⟩)), ⟨⟨rfl, rfl, rfl, rfl, rfl, rfl, rfl, trivial⟩, rfl, rfl⟩, ⟨_, (take1 (atS (atS (atS at0))) (take1 (atS (atS (atS at0))) (take1 at0 (take1 at0 (take1 at0 (take1 at0 (take1 at0 take0)))))))⟩⟩
      · refine WP.seq <| WP.region <| v0 (S0.cmp rfl rfl rfl) rfl <| v0 (S0.assign rfl) rfl <| vE <| ?_
        first | refine WP.condP rfl (fun k1 => ?_) (fun k1 => ?_) | refine WP.condN rfl (fun k1 => ?_) (fun k1 => ?_) | refine WP.cond rfl (fun k1 => ?_) (fun k1 => ?_)
        · have hq := hg.tick (by omega) x.n (Q := Amo2 X Y (tickBk b G D x.n).2.1) (fun c h => ⟨.inl h.1, h.2⟩) ⟨.inr rfl, fun m hm => by rw [seq_tick]; exact hg.pb.2 m hm⟩
          refine WP.region <| v0 (S0.move rfl) rfl <| v0 (S0.move rfl) rfl <| v0 (S0.move rfl) rfl <| ?_
          refine v0 (S0.indexN (k := 7) rfl rfl hlt) rfl <| ?_
          refine v0 (S0.fieldAddr rfl) rfl <| ?_
          refine v0 (S0.load (v := .int .i64 x.n) rfl gn) rfl <| ?_
          refine vc (S1.callF rfl (btick_spec hro hc hlg hd x.n) (take1 (atS (atS at0)) (take1 (atS (atS at0)) (take1 (atS (atS at0)) take0)))) rfl ?_
          rintro _ _ ⟨cc2, lc2, dc2, rfl, hc2, hl2, hd2, rfl⟩
          refine app ?_
          refine vE <| ?_
          exact ⟨StR.mk i (tickBk b G D x.n).2.1 (tickBk b G D x.n).2.2.1 (tickBk b G D x.n).2.2.2 cc2 lc2 dc2 X xv xr Y yv yr, (by first | exact ⟨hc2, hl2, hd2, hxs, hys, hXl, hYl, hq⟩ | (dsimp only; exact ⟨hc2, hl2, hd2, hxs, hys, hXl, hYl, hq⟩)), ⟨⟨rfl, rfl, rfl, rfl, rfl, rfl, rfl, trivial⟩, rfl, rfl⟩, ⟨_, (take1 (atS (atS (atS at0))) (take1 (atS (atS (atS at0))) (take1 at0 (take1 at0 (take1 at0 (take1 at0 (take1 at0 take0)))))))⟩⟩
        · have hmr := hro.w.ris
          have hq := hg.sync.mono (N' := i + 1) (by omega) (Q := Amo2 [] b.M b) (fun c h => by
            subst h
            exact ⟨.inr rfl, fun m hm => by unfold seqK; rw [mkO_of hmr.1 hm]; exact Int.le_refl _⟩)
          refine WP.seq <| WP.region <| v0 (S0.move rfl) rfl <| ?_
          refine vc (S1.callF rfl (bsync_spec hc hlg hd) (take1 (atS (atS at0)) (take1 (atS (atS at0)) (take1 (atS (atS at0)) take0)))) rfl ?_
          rintro _ _ ⟨lc2, dc2, hl2, hd2, rfl⟩
          refine app ?_
          refine vE <| WP.seq <| WP.region <| vnv (S1.buildSlice rfl (qs := []) rfl rfl) rfl fun b49 => v0 (S0.assign rfl) rfl <| vE <| WP.region <| v0 (S0.move rfl) rfl <| ?_
          refine vc (S1.callF rfl (bmarks_spec hc hro.w) (take1 (atS at0) take0)) rfl ?_
          rintro u2 _ ⟨q2, hs2, rfl⟩
          refine app ?_
          refine v0 (S0.assign rfl) rfl <| vE <| ?_
          exact ⟨StR.mk i b (syncLg G) (syncK D) cc lc2 dc2 [] _ [(b49, .cells ⟨[]⟩ 9 (0, 0))] b.M u2 q2, (by first | exact ⟨hc, hl2, hd2, IsSl.row (n := 0) (c := 0) (l := []) (sp := []) rfl rfl (Nat.le_refl _), hs2, by simp, hmr.2, hq⟩ | (dsimp only; exact ⟨hc, hl2, hd2, IsSl.row (n := 0) (c := 0) (l := []) (sp := []) rfl rfl (Nat.le_refl _), hs2, by simp, hmr.2, hq⟩)), ⟨⟨rfl, rfl, rfl, rfl, rfl, rfl, rfl, trivial⟩, rfl, rfl⟩, ⟨_, (take1 (atS (atS at0)) (take1 at0 (take1 at0 (take1 at0 (take1 at0 (take1 (atS (atS at0)) (take1 (atS (atS at0)) take0)))))))⟩⟩
    · obtain ⟨i', b', G', D', cc', lc', dc', X', xv', xr', Y', yv', yr'⟩ := st
      obtain ⟨hc', hlg', hd', hxs', hys', hXl', hYl', hg'⟩ := hinv
      dsimp only at hc' hlg' hd' hxs' hys' hXl' hYl' hg' ⊢
      have hro' : Rooms b' G' D' := hg'.rooms (by omega)
      have hbn := hg'.sv.bn
      obtain ⟨xa, xcap, rfl, hxcap, hxrow⟩ := hxs'.strsE
      refine WP.region <| v0 (S0.move rfl) rfl <| v0 (S0.move rfl) rfl <| ?_
      refine vcd (S1.callF rfl (state_spec hc' hro'.w (by omega)) (take1 (atS (atS at0)) take0)) rfl ?_
      refine vnv (S1.buildSlice rfl (qs := [(0, _)]) rfl rfl) rfl fun b73 => ?_
      refine ve (S1.appendL rfl hxs' rfl rfl (atS (atS at0)) rfl rfl (by rw [strs_len]; simp; omega)) rfl ?_
      rintro v2 _ ⟨row2, hs2, rfl⟩
      have hs3 : IsSl 9 1 v2 (strs (X' ++ [stB b'])) row2 := by
        simpa [strs] using hs2
      refine v0 (S0.assign rfl) rfl <| vE <| WP.region <| v0 (S0.move rfl) rfl <| v0 (S0.ari rfl rfl rfl (wrap_i64 (by omega))) rfl <| v0 (S0.assign rfl) rfl <| vE <| ?_
      exact ⟨StR.mk (i + 1) b' G' D' cc' lc' dc' (X' ++ [stB b']) v2 row2 Y' yv' yr', (by first | exact ⟨hlt, hc', hlg', hd', hs3, hys', by simp; omega, hYl', hg'.mono (Nat.le_refl _) fun c h => h.one⟩ | (dsimp only; exact ⟨hlt, hc', hlg', hd', hs3, hys', by simp; omega, hYl', hg'.mono (Nat.le_refl _) fun c h => h.one⟩)), (show M.length - (i + 1) < M.length - i by omega), ⟨⟨rfl, rfl, rfl, rfl, rfl, rfl, rfl, trivial⟩, rfl, rfl⟩, ⟨_, (take1 at0 (take1 (atS (atS at0)) (take1 (atS at0) (take1 (atS at0) (take1 (atS at0) (take1 (atS at0) (take1 (atS at0) take0)))))))⟩⟩
  · have hro : Rooms b G D := hg.rooms (by omega)
    obtain ⟨nn, hnn, hnl⟩ := tmod_lt (m := unitsL D.W + 1) hzm.1 (by omega)
    obtain ⟨b', G', D', hP, e1, -, e3, hq⟩ := hg.crash (by omega) (nn : Int)
    have hW := hro.W
    have hul := unitsL_le D.W hro.k.ok.w
    have hbn := hq.sv.bn
    have hro2 : Rooms b' G' D' := hq.rooms (by omega)
    refine WP.exit <| WP.seq <| WP.region <| v0 (S0.move rfl) rfl <| v0 (S0.move rfl) rfl <| ?_
    refine v0 (S0.bits rfl rfl hz) rfl <| ?_
    refine v0 (S0.move rfl) rfl <| ?_
    refine vcd (S1.callF rfl (units_spec hd hro.k.ok (by omega)) (take1 (atS (atS (atS (atS at0)))) take0)) rfl ?_
    refine v0 (S0.ari rfl rfl rfl (wrap_i64 (by omega))) rfl <| ?_
    refine v0 (S0.rem rfl rfl (by omega)) rfl <| ?_
    rw [show (unitsL D.W : Int) + 1 = ((unitsL D.W + 1 : Nat) : Int) by omega, hnn]
    refine vc (S1.callF rfl (crash_spec hd hro.k.ok (by omega) (nn : Int)) (take1 at0 take0)) rfl ?_
    rintro _ _ ⟨dc2, hd2, rfl, rfl⟩
    refine app ?_
    refine vE <| WP.seq <| WP.region <| v0 (S0.move rfl) rfl <| ?_
    refine vc (S1.callF rfl (bopen_good hd2 (hro.k.crash nn) (by simp [crashK]) e1 e3) (take1 at0 take0)) rfl ?_
    rintro _ _ ⟨bb2, lb2, cc3, lc3, dc3, hc3, hl3, hd3, rfl, rfl⟩
    refine app ?_
    refine v0 (S0.move rfl) rfl <| v0 (S0.extract rfl rfl) rfl <| v0 (S0.extract rfl rfl) rfl <| v0 (S0.assign rfl) rfl <| v0 (S0.assign rfl) rfl <| vE <| WP.seq <| WP.seq <| WP.region <| v0 (S0.move rfl) rfl <| v0 (S0.nilP rfl rfl rfl rfl) rfl <| v0 (S0.move rfl) rfl <| ?_
    refine csFh (t := 90) rfl ((by simp)) ?_
    refine gT rfl <| v0 (S0.move rfl) rfl <| gT rfl <| v0 (S0.cmp rfl rfl rfl) rfl <| v0 (S0.pickF rfl rfl) rfl <| vE <| ?_
    refine WP.condFh rfl ((by simp)) ?_
    refine WP.skip <| WP.seq <| WP.region <| v0 (S0.move rfl) rfl <| ?_
    refine vcd (S1.callF rfl (state_spec hc3 hro2.w (by omega)) (take1 at0 take0)) rfl ?_
    refine v0 (S0.assign rfl) rfl <| v0 (S0.assign rfl) rfl <| vE <| WP.seq <| WP.seq <| WP.region <| v0 (S0.assign rfl) rfl <| vE <| WP.block <| ?_
    obtain ⟨xa, xcap, rfl, hxcap, hxrow⟩ := hxs.strsE
    obtain ⟨ya, ycap, rfl, hycap, hyrow⟩ := IsSl.elems (k := 1) enM_len hys
    refine WP.loop (fun st : Nat × Bool => st.1 ≤ X.length ∧ st.2 = decide (stB b' ∈ X.take st.1)) (fun st : Nat × Bool => [(9, .slice xa X.length xcap), (10, .slice ya Y.length ycap), (12, ptrB bb2), (14, sv (stB b')), (15, .bool st.2), (16, .int .i64 (st.1 : Int))]) (fun st : Nat × Bool => [cc3, xr, yr, whole W]) (fun st : Nat × Bool => X.length - st.1) ((0, false)) (⟨Nat.zero_le _, by simp⟩) ⟨rfl, rfl, rfl, rfl, rfl, rfl, trivial⟩ ⟨_, (take1 at0 (take1 (atS (atS at0)) (take1 (atS (atS at0)) (take1 (atS (atS (atS (atS (atS at0))))) take0))))⟩ (fun st hinv => ?_)
    obtain ⟨k, ib⟩ := st
    obtain ⟨hk, hib⟩ := hinv
    dsimp only at hk hib ⊢
    refine WP.seq <| WP.seq <| WP.region <| v0 (S0.move rfl) rfl <| v0 (S0.move rfl) rfl <| v0 (S0.lenSl rfl) rfl <| v0 (S0.cmp rfl rfl rfl) rfl <| vE <| ?_
    first | refine WP.condP rfl (fun h2 => ?_) (fun h2 => ?_) | refine WP.condN rfl (fun h2 => ?_) (fun h2 => ?_) | refine WP.cond rfl (fun h2 => ?_) (fun h2 => ?_)
    · have hlt2 : k < X.length := by omega
      rcases hxrow with ⟨e, -⟩ | ⟨b2, sp2, rfl, rfl, hsp2⟩
      · rw [e] at hlt2; simp at hlt2
      have hz : X[k]? = some X[k] := by simp [hlt2]
      generalize X[k] = y at hz
      have htk := take_one hz
      refine WP.skip <| WP.seq <| WP.block <| WP.region <| v0 (S0.move rfl) rfl <| v0 (S0.move rfl) rfl <| ?_
      cases ib with
      | true =>
        refine csTh (t := 103) rfl (rfl) ?_
        refine gF rfl rfl <| gF rfl rfl <| gF rfl rfl <| gF rfl rfl <| gF rfl rfl <| gF rfl rfl <| v0 (S0.pickT rfl rfl) rfl <| v0 (S0.assign rfl) rfl <| vE <| WP.region <| v0 (S0.move rfl) rfl <| v0 (S0.ari rfl rfl rfl (wrap_i64 (by omega))) rfl <| v0 (S0.assign rfl) rfl <| vE <| ?_
        exact ⟨(k + 1, true), (by first | exact ⟨hlt2, by rw [htk]; symm; simp at hib ⊢; exact .inl hib⟩ | (dsimp only; exact ⟨hlt2, by rw [htk]; symm; simp at hib ⊢; exact .inl hib⟩)), (show X.length - (k + 1) < X.length - k by omega), ⟨⟨rfl, rfl, rfl, rfl, rfl, rfl, trivial⟩, rfl, rfl⟩, ⟨_, (take1 at0 (take1 at0 (take1 at0 (take1 at0 take0))))⟩⟩
      | false =>
        refine csFh (t := 103) rfl (rfl) ?_
        refine gT rfl <| v0 (S0.move rfl) rfl <| gT rfl <| v0 (S0.move rfl) rfl <| ?_
        refine gT rfl <| v0 (S0.index1 rfl rfl hlt2) rfl <| ?_
        refine gT rfl <| v0 (S0.load rfl (strs_get hz)) rfl <| ?_
        refine gT rfl <| v0 (S0.move rfl) rfl <| gT rfl <| v0 (S0.cmpS rfl rfl rfl) rfl <| v0 (S0.pickF rfl rfl) rfl <| v0 (S0.assign rfl) rfl <| vE <| WP.region <| v0 (S0.move rfl) rfl <| v0 (S0.ari rfl rfl rfl (wrap_i64 (by omega))) rfl <| v0 (S0.assign rfl) rfl <| vE <| ?_
        exact ⟨(k + 1, decide (y = stB b')), (by first | exact ⟨hlt2, by rw [htk]; simp at hib ⊢; simp [hib, eq_comm]⟩ | (dsimp only; exact ⟨hlt2, by rw [htk]; simp at hib ⊢; simp [hib, eq_comm]⟩)), (show X.length - (k + 1) < X.length - k by omega), ⟨⟨rfl, rfl, rfl, rfl, rfl, rfl, trivial⟩, rfl, rfl⟩, ⟨_, (take1 at0 (take1 at0 (take1 at0 (take1 at0 take0))))⟩⟩
    · have hk2 : k = X.length := by omega
      subst hk2
      rw [List.take_length] at hib
      have hib2 : ib = true := by rw [hib]; simp [hP.1]
      subst hib2
      refine WP.exit <| WP.seq <| WP.seq <| WP.region <| v0 (S0.assign rfl) rfl <| vE <| WP.block <| ?_
      refine WP.loop (fun st : Nat => st ≤ Y.length) (fun st : Nat => [(10, .slice ya Y.length ycap), (12, ptrB bb2), (15, .bool true), (17, .int .i64 (st : Int))]) (fun st : Nat => [cc3, yr, whole W]) (fun st : Nat => Y.length - st) (0) (Nat.zero_le _) ⟨rfl, rfl, rfl, rfl, trivial⟩ ⟨_, (take1 at0 (take1 (atS at0) (take1 (atS at0) take0)))⟩ (fun st hinv => ?_)
      dsimp only at hinv ⊢
      refine WP.seq <| WP.seq <| WP.region <| v0 (S0.move rfl) rfl <| v0 (S0.move rfl) rfl <| v0 (S0.lenSl rfl) rfl <| v0 (S0.cmp rfl rfl rfl) rfl <| vE <| ?_
      first | refine WP.condP rfl (fun h3 => ?_) (fun h3 => ?_) | refine WP.condN rfl (fun h3 => ?_) (fun h3 => ?_) | refine WP.cond rfl (fun h3 => ?_) (fun h3 => ?_)
      · have hlt3 : st < Y.length := by omega
        rcases hyrow with ⟨e, -⟩ | ⟨b2, sp2, rfl, rfl, hsp2⟩
        · rw [e] at hlt3; simp at hlt3
        have hz : Y[st]? = some Y[st] := by simp [hlt3]
        have hPm := hP.2 _ (List.getElem_mem hlt3)
        generalize Y[st] = y at hz hPm
        have g0 := flat_get enM_len sp2 Y st 0 y hz (by decide)
        have g1 := flat_get enM_len sp2 Y st 1 y hz (by decide)
        refine WP.skip <| WP.seq <| WP.block <| WP.seq <| WP.drawP [(0, none), (1, none), (2, none), (3, none), (4, none), (5, none), (7, none), (8, none), (9, none), (10, none), (11, none), (6, none), (12, none)] mixed (by kernel_rfl) (by kernel_rfl) (by kernel_rfl) (take1 (atS at0) take0) <| w0 rfl rfl rfl (S0.move rfl) rfl <| w0 rfl rfl rfl (S0.move rfl) rfl <| w0 rfl rfl rfl (S0.move rfl) rfl <| ?_
        refine w0 rfl rfl rfl (S0.indexN (k := 2) rfl rfl hlt3) rfl <| ?_
        refine w0 rfl rfl rfl (S0.fieldAddr rfl) rfl <| ?_
        refine w0 rfl rfl rfl (S0.load (v := .int .i64 y.1) rfl g0) rfl <| ?_
        refine w0 rfl rfl rfl (S0.move rfl) rfl <| w0 rfl rfl rfl (S0.move rfl) rfl <| ?_
        refine w0 rfl rfl rfl (S0.indexN (k := 2) rfl rfl hlt3) rfl <| ?_
        refine w0 rfl rfl rfl (S0.fieldAddr rfl) rfl <| ?_
        refine w0 rfl rfl rfl (S0.load (v := .int .i64 y.2) rfl g1) rfl <| ?_
        refine wcd rfl rfl rfl rfl (S1.callF rfl (seq_spec hc3 y.1) (take1 at0 take0)) rfl ?_
        refine w0 rfl rfl rfl (S0.cmp rfl rfl rfl) rfl <| wE <| ?_
        refine WP.condFh rfl ((by simp; omega)) ?_
        refine WP.skip <| WP.region <| v0 (S0.move rfl) rfl <| v0 (S0.ari rfl rfl rfl (wrap_i64 (by omega))) rfl <| v0 (S0.assign rfl) rfl <| vE <| ?_
        exact ⟨st + 1, (by first | exact hlt3 | (dsimp only; exact hlt3)), (show Y.length - (st + 1) < Y.length - st by omega), ⟨⟨rfl, rfl, rfl, rfl, trivial⟩, rfl, rfl⟩, ⟨_, (take1 (atS at0) (take1 at0 (take1 at0 take0)))⟩⟩
      · refine WP.exit <| WP.seq <| WP.region <| v0 (S0.move rfl) rfl <| v0 (S0.move rfl) rfl <| ?_
        refine csTh (t := 131) rfl (rfl) ?_
        refine gT rfl <| vcd (S1.callF rfl (fixed_spec) take0) rfl ?_
        refine v0 (S0.pickT rfl rfl) rfl <| v0 (S0.assign rfl) rfl <| vE <| WP.ret <| ?_
        refine Leaves.drop (take1 (atS (atS at0)) take0) ?_
        refine r1 rfl rfl ?_
        exact ⟨rfl, rfl⟩
end Go.Proofs.YtjpjebfodhbdfaaGreatDoor
namespace Go.Proofs.YtjpjebfodhbdfaaGreatDoor
open Go
def u8s (l : List Nat) : Array Value := (l.map fun (n : Nat) => Value.int .u8 n).toArray
def acceptZ : List Nat := [128, 191, 160, 191, 128, 159, 144, 191, 128, 143, 0, 0, 0, 0, 0, 0, 0, 0, 0, 0, 0, 0, 0, 0, 0, 0, 0, 0, 0, 0, 0, 0]
noncomputable def laidWorld (os : Os) : World :=
  let w0 := World.holding Tryz.prog os ⟨#[], #[], []⟩
  { w0 with heap := (w0.heap.modify 1 fun
      | .cells _ t frozen => .cells (u8s acceptZ) t frozen
      | o => o).modify 0 fun
      | .cells _ t frozen => .cells (u8s Go.Pinned.utf8FirstZ) t frozen
      | o => o }
abbrev laidList : List (String × DataW Unit) := [("unicode/utf8.acceptRanges", Rows.laid_unicode_utf8_acceptRanges), ("unicode/utf8.first", Rows.laid_unicode_utf8_first)]
set_option maxRecDepth 100000 in
theorem laidWorld_met (os : Os) (args : Array Value) : laidMetH Tryz.prog laidList ((laidWorld os).forCall (fun _ _ => 0) ⟨#[], args, []⟩).memory :=
  laidMetH_of_parts (laidMet_of_run' 100 (by kernel_rfl) (by kernel_rfl)) (by kernel_rfl)
end Go.Proofs.YtjpjebfodhbdfaaGreatDoor
