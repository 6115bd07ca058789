import Derived.Test.YtjpjebfodhbdfaaGreatDoorMg3
import Derived.Test.YtjpjebfodhbdfaaGreatDoorMg2
import Derived.Test.YtjpjebfodhbdfaaGreatDoorRows
import Derived.ChangeVars
import Derived.JoinedOf
import Derived.LaidLaws
import Derived.LaidHandle
import Derived.SizedLaws
set_option linter.unusedSimpArgs false
set_option linter.unusedVariables false
set_option linter.unnecessarySimpa false
namespace Go.Proofs.YtjpjebfodhbdfaaGreatDoor
open Go
theorem bmarks_spec {bb lb : Nat} {b : Ct} {cc : List Blk} (h : IsCt bb lb b cc) (ho : CtW b) : FN Tryz.prog 31 [ptrB bb] [cc] (fun u h => ∃ row, IsSl 63 2 u (b.M.flatMap enM) row ∧ h = [row, cc]) := by
  obtain ⟨v, row, m, A, ck, hs, hA, rfl⟩ := h
  obtain ⟨hris, hlM⟩ := ho.ris
  have hlA := hA.len hris
  refine FN.intro 30 [(0, ptrB bb)] Tryz.func31 rfl (enters Tryz.func31 (by kernel_rfl) rfl) Tryz.ntmps31 rfl rfl ?_
  refine WP.seq <| WP.region <| v0 (S0.assign rfl) rfl <| vE <| WP.seq <| WP.region <| v0 (S0.assign rfl) rfl <| vE <| WP.seq <| WP.seq <| WP.region <| v0 (S0.move rfl) rfl <| v0 (S0.nilCheck rfl) rfl <| v0 (S0.fieldAddr rfl) rfl <| v0 (S0.load rfl rfl) rfl <| ?_
  refine vc (S1.callF rfl (keys_spec m) take0) rfl ?_
  rintro _ _ ⟨bx, rfl, rfl⟩
  refine app ?_
  refine WO.perm (h' := [[(bx, cel [.map (some m)] 76)], [(m, mapO (Value.int .i64) A ck)], [bkB bb lb v m (b.n : Int)], row]) (k := []) (pm fun a_ => by (try simp only [List.flatten_append, List.flatten_cons, List.flatten_nil, List.append_nil, List.cons_append, List.nil_append, List.append_assoc, nOf_app, nOf_cons, nOf_nil, Nat.add_zero, Nat.zero_add, List.map_append, List.map_cons, List.map_nil, cel, sv]); first | done | omega) ?_
  refine vc (S1.callF rfl (sorted_keys (m := m) (L := A) (ck := ck) hA.wf (by omega)) (take1 at0 (take1 at0 take0))) rfl ?_
  rintro kv _ ⟨xs, krow, hp, hks, rfl⟩
  refine app ?_
  rw [hA.sort hris hp] at hks
  have hML : (b.M.map (·.1)).length = b.M.length := List.length_map _
  obtain ⟨a, cap, rfl, hcap, hkrow⟩ := hks.intsE
  refine v0 (S0.lenSl rfl) rfl <| v0 (S0.move rfl) rfl <| vE <| WP.block <| ?_
  refine WP.loop (fun s : Nat × Value × List Blk => s.1 ≤ b.M.length ∧ IsSl 63 2 s.2.1 ((b.M.take s.1).flatMap enM) s.2.2) (fun s : Nat × Value × List Blk => [(0, ptrB bb), (3, s.2.1), (11, .slice a (b.M.map (·.1)).length cap), (12, .int .i64 ((b.M.map (·.1)).length : Int)), (13, .int .i64 (s.1 : Int))]) (fun s : Nat × Value × List Blk => [s.2.2, krow, [(m, mapO (Value.int .i64) A ck)], [bkB bb lb v m (b.n : Int)], row]) (fun s : Nat × Value × List Blk => b.M.length - s.1) ((0, .slice none 0 0, [])) (⟨Nat.zero_le _, IsSl.nil⟩) ⟨rfl, rfl, rfl, rfl, rfl, trivial⟩ ⟨[], (pm fun a_ => by (try simp only [List.flatten_append, List.flatten_cons, List.flatten_nil, List.append_nil, List.cons_append, List.nil_append, List.append_assoc, nOf_app, nOf_cons, nOf_nil, Nat.add_zero, Nat.zero_add, List.map_append, List.map_cons, List.map_nil, cel, sv]); first | done | omega)⟩ (fun s hinv => ?_)
  obtain ⟨k, ov, orow⟩ := s
  obtain ⟨hk, hos⟩ := hinv
  dsimp only at hk hos ⊢
  refine WP.seq <| WP.region <| v0 (S0.cmp rfl rfl rfl) rfl <| vE <| WP.seq <| ?_
  first | refine WP.condP rfl (fun h1 => ?_) (fun h1 => ?_) | refine WP.condN rfl (fun h1 => ?_) (fun h1 => ?_) | refine WP.cond rfl (fun h1 => ?_) (fun h1 => ?_)
  · have hlt : k < b.M.length := by omega
    have hz : b.M[k]? = some b.M[k] := by simp [hlt]
    have hgz := mkO_of hris (List.getElem_mem hlt)
    generalize b.M[k] = z at hz hgz
    have hiz : (b.M.map (·.1))[k]? = some z.1 := by simp [hz]
    rcases hkrow with ⟨e, -⟩ | ⟨b1, sp1, rfl, rfl, hsp1⟩
    · have := congrArg List.length e; simp at this; rw [this] at hlt; simp at hlt
    refine WP.skip <| WP.seq <| WP.block <| WP.seq <| WP.region <| ?_
    refine v0 (S0.index1 rfl rfl (by omega)) rfl <| ?_
    refine v0 (S0.load rfl (ints_get hiz)) rfl <| ?_
    refine v0 (S0.assign rfl) rfl <| vE <| WP.region <| v0 (S0.move rfl) rfl <| v0 (S0.move rfl) rfl <| v0 (S0.move rfl) rfl <| v0 (S0.nilCheck rfl) rfl <| v0 (S0.fieldAddr rfl) rfl <| v0 (S0.load rfl rfl) rfl <| v0 (S0.move rfl) rfl <| ?_
    refine v0 (S0.lookupS (ek := Value.int .i64) (k := z.1) (v := .int .i64 z.2) rfl rfl (by rw [hA.ms, hgz]; rfl)) rfl <| ?_
    refine v0 (S0.build rfl (qs := [(0, _), (1, _)]) rfl) rfl <| vnv (S1.buildSlice rfl (qs := [(0, _)]) rfl rfl) rfl fun b26 => ?_
    refine ve (S1.appendL rfl hos rfl rfl (atS at0) rfl rfl (by rw [flat_len enM_len]; simp; omega)) rfl ?_
    rintro v2 _ ⟨row2, hs2, rfl⟩
    refine v0 (S0.assign rfl) rfl <| vE <| WP.region <| v0 (S0.ari rfl rfl rfl (wrap_i64 (by omega))) rfl <| v0 (S0.move rfl) rfl <| vE <| ?_
    have hs3 : IsSl 63 2 v2 ((b.M.take (k + 1)).flatMap enM) row2 := by
      rw [List.take_add_one, hz]; simpa using hs2
    exact ⟨(k + 1, v2, row2), (by first | exact ⟨hlt, hs3⟩ | (dsimp only; exact ⟨hlt, hs3⟩)), (show b.M.length - (k + 1) < b.M.length - k by omega), ⟨⟨rfl, rfl, rfl, rfl, rfl, trivial⟩, rfl, rfl⟩, ⟨_, (take1 at0 (take1 (atS at0) (take1 (atS at0) (take1 (atS at0) (take1 (atS at0) take0)))))⟩⟩
  · have e : k = b.M.length := by omega
    rw [e, List.take_length] at hos
    refine WP.exit <| WP.seq <| WP.region <| v0 (S0.move rfl) rfl <| v0 (S0.assign rfl) rfl <| vE <| WP.ret <| ?_
    refine Leaves.drop (h' := [orow, bkB bb lb v m (b.n : Int) :: (m, mapO (Value.int .i64) A ck) :: row]) (k := [krow]) (pm fun a_ => by (try simp only [List.flatten_append, List.flatten_cons, List.flatten_nil, List.append_nil, List.cons_append, List.nil_append, List.append_assoc, nOf_app, nOf_cons, nOf_nil, Nat.add_zero, Nat.zero_add, List.map_append, List.map_cons, List.map_nil, cel, sv]); first | done | omega) ?_
    refine r1 rfl rfl ?_
    exact ⟨orow, hos, rfl⟩
theorem badd_spec {bb lb : Nat} {b : Ct} {cc : List Blk} (h : IsCt bb lb b cc) (ho : CtW b) (hn : b.n ≤ 4000000000000) (e : Ev) : FN Tryz.prog 52 [ptrB bb, .agg ⟨evB e⟩] [cc] (fun _ h => ∃ cc', IsCt bb lb (addK b e) cc' ∧ h = [cc']) := by
  obtain ⟨v, row, m, A, ck, hs, hA, rfl⟩ := h
  obtain ⟨a, cap, rfl, hcap, -⟩ := IsSl.elems (k := 5) enN_len hs
  have hl := ho.len
  have hfl : (b.L.flatMap enN).length = b.L.length * 6 := flat_len enN_len _
  refine FN.intro 34 [(0, ptrB bb), (1, .agg ⟨evB e⟩)] Tryz.func52 rfl (enters Tryz.func52 (by kernel_rfl) rfl) Tryz.ntmps52 rfl rfl ?_
  refine WP.perm (h' := [[bkB bb lb (.slice a b.L.length cap) m (b.n : Int)], [(m, mapO (Value.int .i64) A ck)], row]) (k := []) (pm fun a_ => by (try simp only [List.flatten_append, List.flatten_cons, List.flatten_nil, List.append_nil, List.cons_append, List.nil_append, List.append_assoc, nOf_app, nOf_cons, nOf_nil, Nat.add_zero, Nat.zero_add, List.map_append, List.map_cons, List.map_nil, cel, sv]); first | done | omega) ?_
  refine WP.seq <| WP.region <| vn (S1.box rfl rfl) rfl fun b3 => vE <| WP.seq <| WP.region <| v0 (S0.move rfl) rfl <| v0 (S0.nilCheck rfl) rfl <| v0 (S0.fieldAddr rfl) rfl <| v0 (S0.load rfl rfl) rfl <| v0 (S0.ari rfl rfl rfl (wrap_i64 (by omega))) rfl <| v0 (S0.nilCheck rfl) rfl <| v0 (S0.fieldAddr rfl) rfl <| vs (S1.store rfl rfl (by first | rfl | exact IsSl.cv (by assumption))) <| vE <| ?_
  refine WP.seq <| WP.drawP [(0, none), (1, none), (2, none), (3, none), (4, none), (5, none), (6, none), (7, none), (8, none), (9, none), (10, none), (11, none), (12, none), (13, none), (14, none), (15, none)] mixed (by kernel_rfl) (by kernel_rfl) (by kernel_rfl) (take1 at0 (take1 at0 take0)) <| w0 rfl rfl rfl (S0.move rfl) rfl <| w0 rfl rfl rfl (S0.move rfl) rfl <| w0 rfl rfl rfl (S0.nilCheck rfl) rfl <| w0 rfl rfl rfl (S0.fieldAddr rfl) rfl <| w0 rfl rfl rfl (S0.load rfl rfl) rfl <| w0 rfl rfl rfl (S0.move rfl) rfl <| w0 rfl rfl rfl (S0.nilCheck rfl) rfl <| w0 rfl rfl rfl (S0.fieldAddr rfl) rfl <| w0 rfl rfl rfl (S0.load rfl rfl) rfl <| w0 rfl rfl rfl (S0.loadAL rfl) rfl <| w0 rfl rfl rfl (S0.build rfl (qs := [(0, _), (1, _)]) rfl) rfl <| wnv rfl rfl rfl rfl (S1.buildSlice rfl (qs := [(0, _)]) rfl rfl) rfl fun b22 => ?_
  rw [show (b.n : Int) + 1 = ((b.n + 1 : Nat) : Int) by omega]
  refine we rfl rfl rfl rfl (S1.appendL rfl hs rfl rfl (atS (atS at0)) rfl rfl (by rw [hfl]; simp; omega)) rfl ?_
  rintro v2 _ ⟨row2, hs2, rfl⟩
  refine w0 rfl rfl rfl (S0.nilCheck rfl) rfl <| w0 rfl rfl rfl (S0.fieldAddr rfl) rfl <| ?_
  refine wlast rfl (by kernel_rfl) rfl rfl (S1.store rfl rfl hs2.cv) ?_
  refine WP.drawP [(0, none), (1, none), (2, none), (3, none), (4, none), (5, none), (6, none), (7, none), (8, none)] mixed (by kernel_rfl) (by kernel_rfl) (by kernel_rfl) (take1 at0 (take1 at0 take0)) <| w0 rfl rfl rfl (S0.move rfl) rfl <| w0 rfl rfl rfl (S0.nilCheck rfl) rfl <| w0 rfl rfl rfl (S0.fieldAddr rfl) rfl <| w0 rfl rfl rfl (S0.load rfl rfl) rfl <| w0 rfl rfl rfl (S0.fieldAddr rfl) rfl <| w0 rfl rfl rfl (S0.load rfl rfl) rfl <| w0 rfl rfl rfl (S0.fieldAddr rfl) rfl <| w0 rfl rfl rfl (S0.load rfl rfl) rfl <| ?_
  refine ws rfl rfl rfl rfl (S1.mapUpdate (ek := Value.int .i64) (k := e.o) rfl rfl rfl) <| ?_
  refine wE <| ?_
  refine Leaves.drop (h' := [bkB bb lb v2 m ((b.n + 1 : Nat) : Int) :: (m, mapO (Value.int .i64) (putM A ck e.o (.int .i64 e.s)) (clkM A ck e.o)) :: row2]) (k := [[(b3, cel (evB e) 41)], [(b22, cel (enN (b.n + 1, e)) 102)]]) (pm fun a_ => by (try simp only [List.flatten_append, List.flatten_cons, List.flatten_nil, List.append_nil, List.cons_append, List.nil_append, List.append_assoc, nOf_app, nOf_cons, nOf_nil, Nat.add_zero, Nat.zero_add, List.map_append, List.map_cons, List.map_nil, cel, sv, bkB, enN, evB]); first | done | omega) ?_
  refine r0 rfl ?_
  refine ⟨_, ⟨v2, row2, m, _, _, ?_, hA.put (e.o, e.s), rfl⟩, rfl⟩
  show IsSl 102 6 v2 ((b.L ++ [(b.n + 1, e)]).flatMap enN) row2
  rw [List.flatMap_append]; exact hs2
theorem bwhy_spec {bb lb : Nat} {b : Ct} {cc : List Blk} (h : IsCt bb lb b cc) (ho : CtW b) {e : Ev} (ht : e.t.length ≤ 900000) : FN Tryz.prog 49 [ptrB bb, .agg ⟨evB e⟩] [cc] (is (.int .i64 (whyK b e)) [cc]) := by
  obtain ⟨v, row, m, A, ck, hs, hA, rfl⟩ := h
  obtain ⟨a, cap, rfl, hcap, -⟩ := IsSl.elems (k := 5) enN_len hs
  obtain ⟨hris, hlM⟩ := ho.ris
  have hlA := hA.len hris
  have hsz : (⟨List.map (entM (Value.int .i64)) A⟩ : Array MapEntry).size = b.M.length := by simp [hlA]
  refine FN.rest ?_
  refine FN.intro 50 [(0, ptrB bb), (1, .agg ⟨evB e⟩)] Tryz.func49 rfl (enters Tryz.func49 (by kernel_rfl) rfl) Tryz.ntmps49 rfl rfl ?_
  refine WP.seq <| WP.region <| vn (S1.box rfl rfl) rfl fun b3 => v0 (S0.assign rfl) rfl <| vE <| ?_
  refine WP.seq <| WP.drawP [(0, none), (1, none), (2, none), (3, none), (4, none), (5, none), (6, none), (7, none), (8, none), (9, none), (10, none), (11, none)] mixed (by kernel_rfl) (by kernel_rfl) (by kernel_rfl) (take1 at0 (take1 at0 take0)) <| w0 rfl rfl rfl (S0.move rfl) rfl <| w0 rfl rfl rfl (S0.nilCheck rfl) rfl <| w0 rfl rfl rfl (S0.fieldAddr rfl) rfl <| w0 rfl rfl rfl (S0.load rfl rfl) rfl <| w0 rfl rfl rfl (S0.fieldAddr rfl) rfl <| w0 rfl rfl rfl (S0.load rfl rfl) rfl <| ?_
  refine w0 rfl rfl rfl (S0.lookup2V (ek := Value.int .i64) (k := e.o) (v := .int .i64 (seqK b e.o)) rfl rfl (by rw [hA.ms, mk_getD]; rfl) (by rw [hA.ms, Option.isSome_map])) rfl <| ?_
  refine w0 rfl rfl rfl (S0.move rfl) rfl <| w0 rfl rfl rfl (S0.extract rfl rfl) rfl <| w0 rfl rfl rfl (S0.extract rfl rfl) rfl <| w0 rfl rfl rfl (S0.assign rfl) rfl <| w0 rfl rfl rfl (S0.assign rfl) rfl <| wE <| WP.seq <| WP.block <| WP.seq <| WP.region <| v0 (S0.loadAL rfl) rfl <| ?_
  refine vcd (S1.callF rfl (evRight_spec ht) take0) rfl ?_
  refine v0 (S0.not rfl) rfl <| v0 (S0.move rfl) rfl <| ?_
  cases hr : rightE e with
  | false =>
    refine csTh (t := 21) rfl (rfl) ?_
    refine gF rfl rfl <| gF rfl rfl <| gF rfl rfl <| v0 (S0.pickT rfl rfl) rfl <| v0 (S0.assign rfl) rfl <| vE <| WP.condT rfl <| WP.seq <| WP.region <| v0 (S0.assign rfl) rfl <| vE <| WP.ret <| ?_
    refine r1 rfl rfl ?_
    exact ⟨by unfold whyK; rw [if_pos (.inl hr)], [(b3, cel (evB e) 41)], (pm fun a_ => by (try simp only [List.flatten_append, List.flatten_cons, List.flatten_nil, List.append_nil, List.cons_append, List.nil_append, List.append_assoc, nOf_app, nOf_cons, nOf_nil, Nat.add_zero, Nat.zero_add, List.map_append, List.map_cons, List.map_nil, cel, sv]); first | done | omega)⟩
  | true =>
    refine csFh (t := 21) rfl (rfl) ?_
    have hb := rightE_bd hr
    refine gT rfl <| v0 (S0.fieldAddr rfl) rfl <| gT rfl <| v0 (S0.load rfl rfl) rfl <| gT rfl <| v0 (S0.cmp rfl rfl rfl) rfl <| v0 (S0.pickF rfl rfl) rfl <| v0 (S0.assign rfl) rfl <| vE <| ?_
    first | refine WP.condP rfl (fun h1 => ?_) (fun h1 => ?_) | refine WP.condN rfl (fun h1 => ?_) (fun h1 => ?_) | refine WP.cond rfl (fun h1 => ?_) (fun h1 => ?_)
    · refine WP.seq <| WP.region <| v0 (S0.assign rfl) rfl <| vE <| WP.ret <| ?_
      refine r1 rfl rfl ?_
      exact ⟨by unfold whyK; rw [if_pos (.inr (by omega))], [(b3, cel (evB e) 41)], (pm fun a_ => by (try simp only [List.flatten_append, List.flatten_cons, List.flatten_nil, List.append_nil, List.cons_append, List.nil_append, List.append_assoc, nOf_app, nOf_cons, nOf_nil, Nat.add_zero, Nat.zero_add, List.map_append, List.map_cons, List.map_nil, cel, sv]); first | done | omega)⟩
    · have hw : whyK b e = if e.s ≤ seqK b e.o then 11 else if 64 ≤ b.L.length ∨ ((mkO b.M e.o).isNone = true ∧ 32 ≤ b.M.length) then 7 else 0 := by
        unfold whyK; rw [if_neg (fun e' => e'.elim (fun q => by rw [hr] at q; cases q) (fun q => by omega))]
      refine WP.seq <| WP.region <| v0 (S0.fieldAddr rfl) rfl <| v0 (S0.load rfl rfl) rfl <| v0 (S0.move rfl) rfl <| v0 (S0.cmp rfl rfl rfl) rfl <| v0 (S0.assign rfl) rfl <| vE <| ?_
      first | refine WP.condP rfl (fun h2 => ?_) (fun h2 => ?_) | refine WP.condN rfl (fun h2 => ?_) (fun h2 => ?_) | refine WP.cond rfl (fun h2 => ?_) (fun h2 => ?_)
      · refine WP.seq <| WP.region <| v0 (S0.assign rfl) rfl <| vE <| WP.ret <| ?_
        refine r1 rfl rfl ?_
        exact ⟨by rw [hw, if_pos h2], [(b3, cel (evB e) 41)], (pm fun a_ => by (try simp only [List.flatten_append, List.flatten_cons, List.flatten_nil, List.append_nil, List.cons_append, List.nil_append, List.append_assoc, nOf_app, nOf_cons, nOf_nil, Nat.add_zero, Nat.zero_add, List.map_append, List.map_cons, List.map_nil, cel, sv]); first | done | omega)⟩
      · rw [if_neg h2] at hw
        refine WP.seq <| WP.region <| v0 (S0.move rfl) rfl <| v0 (S0.nilCheck rfl) rfl <| v0 (S0.fieldAddr rfl) rfl <| v0 (S0.load rfl rfl) rfl <| v0 (S0.lenSl rfl) rfl <| v0 (S0.cmp rfl rfl rfl) rfl <| v0 (S0.move rfl) rfl <| ?_
        first | refine csP (t := 38) rfl (fun h3 => ?_) (fun h3 => ?_) | refine csN (t := 38) rfl (fun h3 => ?_) (fun h3 => ?_) | refine cs (t := 38) rfl (fun h3 => ?_) (fun h3 => ?_)
        · refine gF rfl rfl <| gF rfl rfl <| gF rfl rfl <| gF rfl rfl <| gF rfl rfl <| gF rfl rfl <| gF rfl rfl <| gF rfl rfl <| gF rfl rfl <| gF rfl rfl <| v0 (S0.pickT rfl rfl) rfl <| v0 (S0.assign rfl) rfl <| vE <| WP.condT rfl <| WP.seq <| WP.region <| v0 (S0.assign rfl) rfl <| vE <| WP.ret <| ?_
          refine r1 rfl rfl ?_
          exact ⟨by rw [hw, if_pos (.inl (by omega))], [(b3, cel (evB e) 41)], (pm fun a_ => by (try simp only [List.flatten_append, List.flatten_cons, List.flatten_nil, List.append_nil, List.cons_append, List.nil_append, List.append_assoc, nOf_app, nOf_cons, nOf_nil, Nat.add_zero, Nat.zero_add, List.map_append, List.map_cons, List.map_nil, cel, sv]); first | done | omega)⟩
        · refine gT rfl <| v0 (S0.move rfl) rfl <| gT rfl <| v0 (S0.not rfl) rfl <| gT rfl <| v0 (S0.move rfl) rfl <| ?_
          cases hm : (mkO b.M e.o).isSome with
          | false =>
            have hno : (mkO b.M e.o).isNone = true := by cases hq : mkO b.M e.o <;> simp [hq] at hm ⊢
            refine csTh (t := 41) rfl (rfl) ?_
            refine gT rfl <| v0 (S0.move rfl) rfl <| gT rfl <| v0 (S0.nilCheck rfl) rfl <| gT rfl <| v0 (S0.fieldAddr rfl) rfl <| gT rfl <| v0 (S0.load rfl rfl) rfl <| gT rfl <| v0 (S0.lenM rfl) rfl <| gT rfl <| v0 (S0.cmp rfl rfl rfl) rfl <| gT rfl <| v0 (S0.pickT rfl rfl) rfl <| v0 (S0.pickF rfl rfl) rfl <| v0 (S0.assign rfl) rfl <| vE <| ?_
            first | refine WP.condP rfl (fun h4 => ?_) (fun h4 => ?_) | refine WP.condN rfl (fun h4 => ?_) (fun h4 => ?_) | refine WP.cond rfl (fun h4 => ?_) (fun h4 => ?_)
            · refine WP.seq <| WP.region <| v0 (S0.assign rfl) rfl <| vE <| WP.ret <| ?_
              refine r1 rfl rfl ?_
              exact ⟨by rw [hw, if_pos (.inr ⟨hno, by omega⟩)], [(b3, cel (evB e) 41)], (pm fun a_ => by (try simp only [List.flatten_append, List.flatten_cons, List.flatten_nil, List.append_nil, List.cons_append, List.nil_append, List.append_assoc, nOf_app, nOf_cons, nOf_nil, Nat.add_zero, Nat.zero_add, List.map_append, List.map_cons, List.map_nil, cel, sv]); first | done | omega)⟩
            · refine WP.skip <| WP.seq <| WP.region <| v0 (S0.assign rfl) rfl <| vE <| WP.ret <| ?_
              refine r1 rfl rfl ?_
              exact ⟨by rw [hw, if_neg (fun q => by omega)], [(b3, cel (evB e) 41)], (pm fun a_ => by (try simp only [List.flatten_append, List.flatten_cons, List.flatten_nil, List.append_nil, List.cons_append, List.nil_append, List.append_assoc, nOf_app, nOf_cons, nOf_nil, Nat.add_zero, Nat.zero_add, List.map_append, List.map_cons, List.map_nil, cel, sv]); first | done | omega)⟩
          | true =>
            have hno : ¬ (mkO b.M e.o).isNone = true := by cases hq : mkO b.M e.o <;> simp [hq] at hm ⊢
            refine csFh (t := 41) rfl (rfl) ?_
            refine gF rfl rfl <| gF rfl rfl <| gF rfl rfl <| gF rfl rfl <| gF rfl rfl <| gF rfl rfl <| gT rfl <| v0 (S0.pickF rfl rfl) rfl <| v0 (S0.pickF rfl rfl) rfl <| v0 (S0.assign rfl) rfl <| vE <| WP.condF rfl <| WP.skip <| WP.seq <| WP.region <| v0 (S0.assign rfl) rfl <| vE <| WP.ret <| ?_
            refine r1 rfl rfl ?_
            exact ⟨by rw [hw, if_neg (fun q => q.elim (fun q => by omega) (fun q => hno q.1))], [(b3, cel (evB e) 41)], (pm fun a_ => by (try simp only [List.flatten_append, List.flatten_cons, List.flatten_nil, List.append_nil, List.cons_append, List.nil_append, List.append_assoc, nOf_app, nOf_cons, nOf_nil, Nat.add_zero, Nat.zero_add, List.map_append, List.map_cons, List.map_nil, cel, sv]); first | done | omega)⟩
theorem ageL_snoc (L : List (Nat × Ev)) (x : Nat × Ev) (n : Int) : ageL (L ++ [x]) n = ageL L n ++ (if 0 < (ageE x.2 n).e then [(x.1, ageE x.2 n)] else []) := by
  unfold ageL
  rw [List.map_append, List.filter_append]
  congr 1
  simp only [List.map_cons, List.map_nil, List.filter_cons, List.filter_nil, decide_eq_true_eq]
theorem bage_spec {bb lb : Nat} {b : Ct} {cc : List Blk} (h : IsCt bb lb b cc) (ho : CtW b) {n : Int} (hn : n ≤ 1000) : FN Tryz.prog 58 [ptrB bb, .int .i64 n] [cc] (fun _ h => ∃ cc', IsCt bb lb (ageK b n) cc' ∧ h = [cc']) := by
  obtain ⟨v, row, m, A, ck, hs, hA, rfl⟩ := h
  obtain ⟨a, cap, rfl, hcap, hrow⟩ := IsSl.elems (k := 5) enN_len hs
  have hl := ho.len
  refine FN.intro 34 [(0, ptrB bb), (1, .int .i64 n)] Tryz.func58 rfl (enters Tryz.func58 (by kernel_rfl) rfl) Tryz.ntmps58 rfl rfl ?_
  refine WP.perm (h' := [[bkB bb lb (.slice a b.L.length cap) m (b.n : Int)], [(m, mapO (Value.int .i64) A ck)], row]) (k := []) (pm fun a_ => by (try simp only [List.flatten_append, List.flatten_cons, List.flatten_nil, List.append_nil, List.cons_append, List.nil_append, List.append_assoc, nOf_app, nOf_cons, nOf_nil, Nat.add_zero, Nat.zero_add, List.map_append, List.map_cons, List.map_nil, cel, sv]); first | done | omega) ?_
  refine WP.seq <| WP.region <| v0 (S0.assign rfl) rfl <| vE <| WP.seq <| WP.seq <| WP.region <| v0 (S0.move rfl) rfl <| v0 (S0.nilCheck rfl) rfl <| v0 (S0.fieldAddr rfl) rfl <| v0 (S0.load rfl rfl) rfl <| v0 (S0.lenSl rfl) rfl <| v0 (S0.move rfl) rfl <| vE <| WP.block <| ?_
  refine WP.loop (fun st : Nat × Value × List Blk => st.1 ≤ b.L.length ∧ IsSl 102 6 st.2.1 ((ageL (b.L.take st.1) n).flatMap enN) st.2.2) (fun st : Nat × Value × List Blk => [(0, ptrB bb), (1, .int .i64 n), (4, st.2.1), (10, .slice a b.L.length cap), (11, .int .i64 (b.L.length : Int)), (12, .int .i64 (st.1 : Int))]) (fun st : Nat × Value × List Blk => [st.2.2, row, [bkB bb lb (.slice a b.L.length cap) m (b.n : Int)], [(m, mapO (Value.int .i64) A ck)]]) (fun st : Nat × Value × List Blk => b.L.length - st.1) ((0, .slice none 0 0, [])) (⟨Nat.zero_le _, IsSl.nil⟩) ⟨rfl, rfl, rfl, rfl, rfl, rfl, trivial⟩ ⟨[], (pm fun a_ => by (try simp only [List.flatten_append, List.flatten_cons, List.flatten_nil, List.append_nil, List.cons_append, List.nil_append, List.append_assoc, nOf_app, nOf_cons, nOf_nil, Nat.add_zero, Nat.zero_add, List.map_append, List.map_cons, List.map_nil, cel, sv]); first | done | omega)⟩ (fun st hinv => ?_)
  obtain ⟨k, ov, orow⟩ := st
  obtain ⟨hk, hos⟩ := hinv
  dsimp only at hk hos ⊢
  refine WP.seq <| WP.region <| v0 (S0.cmp rfl rfl rfl) rfl <| vE <| WP.seq <| ?_
  first | refine WP.condP rfl (fun h1 => ?_) (fun h1 => ?_) | refine WP.condN rfl (fun h1 => ?_) (fun h1 => ?_) | refine WP.cond rfl (fun h1 => ?_) (fun h1 => ?_)
  · have hlt : k < b.L.length := by omega
    rcases hrow with ⟨e, -⟩ | ⟨b1, sp1, rfl, rfl, hsp1⟩
    · rw [e] at hlt; simp at hlt
    have hx : b.L[k]? = some b.L[k] := by simp [hlt]
    have hxm := ho.ev _ (List.getElem_mem hlt)
    generalize b.L[k] = x at hx hxm
    have gA := flat_take enN_len sp1 b.L k x hx
    have hxb := rightE_bd hxm.1
    have htk : b.L.take (k + 1) = b.L.take k ++ [x] := by rw [List.take_add_one, hx]; rfl
    have hsn := ageL_snoc (b.L.take k) x n
    rw [← htk] at hsn
    have hal := ageL_len (b.L.take k) n
    have htl : (b.L.take k).length ≤ 64 := by rw [List.length_take]; omega
    refine WP.skip <| WP.seq <| WP.block <| WP.seq <| WP.region <| ?_
    refine v0 (S0.indexN (k := 6) rfl rfl hlt) rfl <| ?_
    refine v0 (S0.loadA rfl gA rfl) rfl <| ?_
    refine vn (S1.alloc) rfl fun b6 => vs (S1.storeA rfl rfl rfl) <| vE <| WP.seq <| WP.region <| v0 (S0.fieldAddr rfl) rfl <| v0 (S0.loadAL rfl) rfl <| v0 (S0.move rfl) rfl <| ?_
    refine vcd (S1.callF rfl (eage_spec (e := x.2) (by omega) (n := n) (by omega)) take0) rfl ?_
    refine v0 (S0.fieldAddr rfl) rfl <| vs (S1.storeA rfl rfl rfl) <| vE <| WP.seq <| WP.region <| v0 (S0.fieldAddr rfl) rfl <| v0 (S0.fieldAddr rfl) rfl <| v0 (S0.load rfl rfl) rfl <| v0 (S0.cmp rfl rfl rfl) rfl <| vE <| ?_
    first | refine WP.condP rfl (fun h2 => ?_) (fun h2 => ?_) | refine WP.condN rfl (fun h2 => ?_) (fun h2 => ?_) | refine WP.cond rfl (fun h2 => ?_) (fun h2 => ?_)
    · rw [if_pos h2] at hsn
      refine WP.region <| v0 (S0.move rfl) rfl <| v0 (S0.loadAL rfl) rfl <| vnv (S1.buildSlice rfl (qs := [(0, _)]) rfl rfl) rfl fun b27 => ?_
      refine ve (S1.appendL rfl hos rfl rfl (atS (atS at0)) rfl rfl (by rw [flat_len enN_len]; simp; omega)) rfl ?_
      rintro v2 _ ⟨row2, hs2, rfl⟩
      have hs3 : IsSl 102 6 v2 ((ageL (b.L.take (k + 1)) n).flatMap enN) row2 := by
        rw [hsn, List.flatMap_append]; exact hs2
      refine v0 (S0.assign rfl) rfl <| vE <| WP.region <| v0 (S0.ari rfl rfl rfl (wrap_i64 (by omega))) rfl <| v0 (S0.move rfl) rfl <| vE <| ?_
      exact ⟨(k + 1, v2, row2), (by first | exact ⟨hlt, hs3⟩ | (dsimp only; exact ⟨hlt, hs3⟩)), (show b.L.length - (k + 1) < b.L.length - k by omega), ⟨⟨rfl, rfl, rfl, rfl, rfl, rfl, trivial⟩, rfl, rfl⟩, ⟨_, (take1 at0 (take1 (atS (atS at0)) (take1 (atS (atS at0)) (take1 (atS (atS at0)) take0))))⟩⟩
    · rw [if_neg h2, List.append_nil] at hsn
      refine WP.skip <| WP.region <| v0 (S0.ari rfl rfl rfl (wrap_i64 (by omega))) rfl <| v0 (S0.move rfl) rfl <| vE <| ?_
      exact ⟨(k + 1, ov, orow), (by first | exact ⟨hlt, by rw [hsn]; exact hos⟩ | (dsimp only; exact ⟨hlt, by rw [hsn]; exact hos⟩)), (show b.L.length - (k + 1) < b.L.length - k by omega), ⟨⟨rfl, rfl, rfl, rfl, rfl, rfl, trivial⟩, rfl, rfl⟩, ⟨_, (take1 (atS at0) (take1 (atS at0) (take1 (atS at0) (take1 (atS at0) take0))))⟩⟩
  · have e : k = b.L.length := by omega
    rw [e, List.take_length] at hos
    obtain ⟨a2, cap2, rfl, -, -⟩ := IsSl.elems (k := 5) enN_len hos
    refine WP.exit <| WP.region <| v0 (S0.move rfl) rfl <| v0 (S0.move rfl) rfl <| v0 (S0.nilCheck rfl) rfl <| v0 (S0.fieldAddr rfl) rfl <| vs (S1.store rfl rfl (by first | rfl | exact IsSl.cv (by assumption))) <| vE <| ?_
    refine Leaves.drop (h' := [bkB bb lb (.slice a2 (ageL b.L n).length cap2) m (b.n : Int) :: (m, mapO (Value.int .i64) A ck) :: orow]) (k := [row]) (pm fun a_ => by (try simp only [List.flatten_append, List.flatten_cons, List.flatten_nil, List.append_nil, List.cons_append, List.nil_append, List.append_assoc, nOf_app, nOf_cons, nOf_nil, Nat.add_zero, Nat.zero_add, List.map_append, List.map_cons, List.map_nil, cel, sv, bkB]); first | done | omega) ?_
    refine r0 rfl ?_
    exact ⟨_, ⟨_, orow, m, A, ck, hos, hA, rfl⟩, rfl⟩
end Go.Proofs.YtjpjebfodhbdfaaGreatDoor
namespace Go.Proofs.YtjpjebfodhbdfaaGreatDoor
open Go
theorem nilE : (#[] : Array MapEntry) = ⟨[]⟩ := rfl
theorem idxP_find {α : Type} (p : α → Bool) (l : List α) : (idxP p l < 0 ∧ l.find? p = none) ∨ ∃ i x, idxP p l = ((i : Nat) : Int) ∧ l[i]? = some x ∧ l.find? p = some x ∧ i < l.length ∧ ∀ j y, j < i → l[j]? = some y → p y = false := by
  unfold idxP
  cases h : l.findIdx? p with
  | none =>
    left
    rw [List.findIdx?_eq_none_iff] at h
    exact ⟨by simp, by rw [List.find?_eq_none]; intro x hx; simp [h x hx]⟩
  | some i =>
    right
    rw [List.findIdx?_eq_some_iff_getElem] at h
    obtain ⟨hlt, hp, hno⟩ := h
    refine ⟨i, l[i], rfl, by simp [hlt], ?_, hlt, fun j y hj hy => ?_⟩
    · rw [List.find?_eq_some_iff_getElem]
      exact ⟨hp, i, hlt, rfl, fun j hj => by simpa using hno j hj⟩
    · obtain ⟨hj2, rfl⟩ := List.getElem?_eq_some_iff.1 hy
      simpa using hno j hj
theorem idxFuncN {g : Nat} {caps : List Value} {cm : List Blk} {p : (Nat × Ev) → Bool} {l : List (Nat × Ev)} {v : Value} {row : List Blk} (hs : IsSl 102 6 v (l.flatMap enN) row) (hl : l.length ≤ 1000000) (hc : ∀ x ∈ l, FN Tryz.prog g (.agg ⟨enN x⟩ :: caps) [cm] (is (.bool (p x)) [cm])) :
    FN Tryz.prog 66 [v, .func (.func g) ⟨[]⟩ ⟨caps⟩] [row, cm] (is (.int .i64 (idxP p l)) [row, cm]) := by
  obtain ⟨a, cap, rfl, hcap, hrow⟩ := IsSl.elems (k := 5) enN_len hs
  refine FN.intro 19 [(0, .slice a l.length cap), (1, .func (.func g) ⟨[]⟩ ⟨caps⟩)] Tryz.func66 rfl (enters Tryz.func66 (by kernel_rfl) rfl) Tryz.ntmps66 rfl rfl ?_
  refine WP.seq <| WP.region <| v0 (S0.assign rfl) rfl <| vE <| WP.seq <| WP.seq <| WP.region <| v0 (S0.move rfl) rfl <| v0 (S0.lenSl rfl) rfl <| v0 (S0.move rfl) rfl <| vE <| WP.block <| ?_
  refine WP.loop (fun i : Nat => i ≤ l.length ∧ ∀ j y, j < i → l[j]? = some y → p y = false) (fun i : Nat => [(0, .slice a l.length cap), (1, .func (.func g) ⟨[]⟩ ⟨caps⟩), (7, .int .i64 (l.length : Int)), (8, .int .i64 (i : Int))]) (fun i : Nat => [row, cm]) (fun i : Nat => l.length - i) (0) (⟨by omega, fun j y hj => by omega⟩) ⟨rfl, rfl, rfl, rfl, trivial⟩ ⟨_, (take1 at0 (take1 at0 take0))⟩ (fun i hinv => ?_)
  obtain ⟨hi, hno⟩ := hinv
  refine WP.seq <| WP.region <| v0 (S0.cmp rfl rfl rfl) rfl <| vE <| WP.seq <| ?_
  first | refine WP.condP rfl (fun h1 => ?_) (fun h1 => ?_) | refine WP.condN rfl (fun h1 => ?_) (fun h1 => ?_) | refine WP.cond rfl (fun h1 => ?_) (fun h1 => ?_)
  · have hlt : i < l.length := by omega
    rcases hrow with ⟨rfl, -⟩ | ⟨b1, sp1, rfl, rfl, hsp1⟩
    · simp at hlt
    have hx : l[i]? = some l[i] := by simp [hlt]
    have gA := flat_take enN_len sp1 l i l[i] hx
    refine WP.skip <| WP.seq <| WP.block <| WP.seq <| WP.region <| v0 (S0.move rfl) rfl <| v0 (S0.assign rfl) rfl <| vE <| WP.seq <| WP.region <| v0 (S0.move rfl) rfl <| v0 (S0.move rfl) rfl <| v0 (S0.move rfl) rfl <| ?_
    refine v0 (S0.indexN (k := 6) rfl rfl hlt) rfl <| ?_
    refine v0 (S0.loadA rfl gA rfl) rfl <| ?_
    refine vcd (S1.callC rfl rfl rfl (hc l[i] (List.getElem_mem hlt)) (take1 (atS at0) take0)) rfl ?_
    refine vE <| ?_
    first | refine WP.condP rfl (fun h2 => ?_) (fun h2 => ?_) | refine WP.condN rfl (fun h2 => ?_) (fun h2 => ?_) | refine WP.cond rfl (fun h2 => ?_) (fun h2 => ?_)
    · refine WP.seq <| WP.region <| v0 (S0.move rfl) rfl <| v0 (S0.assign rfl) rfl <| vE <| WP.ret <| ?_
      refine Leaves.drop (take1 (atS at0) (take1 at0 take0)) ?_
      refine r1 rfl rfl ⟨?_, rfl⟩
      rw [idxP_at hno hx h2]
    · refine WP.skip <| WP.region <| v0 (S0.ari rfl rfl rfl (wrap_i64 (by omega))) rfl <| v0 (S0.move rfl) rfl <| vE <| ?_
      exact ⟨i + 1, (by first | exact ⟨hlt, below_succ (p := fun y => p y = false) hno hx h2⟩ | (dsimp only; exact ⟨hlt, below_succ (p := fun y => p y = false) hno hx h2⟩)), (show l.length - (i + 1) < l.length - i by omega), ⟨⟨rfl, rfl, rfl, rfl, trivial⟩, rfl, rfl⟩, ⟨_, (take1 (atS at0) (take1 at0 take0))⟩⟩
  · refine WP.exit <| WP.seq <| WP.region <| v0 (S0.assign rfl) rfl <| vE <| WP.ret <| ?_
    refine r1 rfl rfl ⟨?_, rfl⟩
    rw [idxP_none fun j y hj => hno j y (by omega)]
theorem idxFuncE {g : Nat} {caps : List Value} {cm : List Blk} {p : Ev → Bool} {l : List Ev} {v : Value} {row : List Blk} (hs : IsSl 41 5 v (evsB l) row) (hl : l.length ≤ 1000000) (hc : ∀ x ∈ l, FN Tryz.prog g (.agg ⟨evB x⟩ :: caps) [cm] (is (.bool (p x)) [cm])) :
    FN Tryz.prog 110 [v, .func (.func g) ⟨[]⟩ ⟨caps⟩] [row, cm] (is (.int .i64 (idxP p l)) [row, cm]) := by
  obtain ⟨a, cap, rfl, hcap, hrow⟩ := IsSl.elems (k := 4) evB_len hs
  refine FN.intro 19 [(0, .slice a l.length cap), (1, .func (.func g) ⟨[]⟩ ⟨caps⟩)] Tryz.func110 rfl (enters Tryz.func110 (by kernel_rfl) rfl) Tryz.ntmps110 rfl rfl ?_
  refine WP.seq <| WP.region <| v0 (S0.assign rfl) rfl <| vE <| WP.seq <| WP.seq <| WP.region <| v0 (S0.move rfl) rfl <| v0 (S0.lenSl rfl) rfl <| v0 (S0.move rfl) rfl <| vE <| WP.block <| ?_
  refine WP.loop (fun i : Nat => i ≤ l.length ∧ ∀ j y, j < i → l[j]? = some y → p y = false) (fun i : Nat => [(0, .slice a l.length cap), (1, .func (.func g) ⟨[]⟩ ⟨caps⟩), (7, .int .i64 (l.length : Int)), (8, .int .i64 (i : Int))]) (fun i : Nat => [row, cm]) (fun i : Nat => l.length - i) (0) (⟨by omega, fun j y hj => by omega⟩) ⟨rfl, rfl, rfl, rfl, trivial⟩ ⟨_, (take1 at0 (take1 at0 take0))⟩ (fun i hinv => ?_)
  obtain ⟨hi, hno⟩ := hinv
  refine WP.seq <| WP.region <| v0 (S0.cmp rfl rfl rfl) rfl <| vE <| WP.seq <| ?_
  first | refine WP.condP rfl (fun h1 => ?_) (fun h1 => ?_) | refine WP.condN rfl (fun h1 => ?_) (fun h1 => ?_) | refine WP.cond rfl (fun h1 => ?_) (fun h1 => ?_)
  · have hlt : i < l.length := by omega
    rcases hrow with ⟨rfl, -⟩ | ⟨b1, sp1, rfl, rfl, hsp1⟩
    · simp at hlt
    have hx : l[i]? = some l[i] := by simp [hlt]
    have gA := flat_take evB_len sp1 l i l[i] hx
    refine WP.skip <| WP.seq <| WP.block <| WP.seq <| WP.region <| v0 (S0.move rfl) rfl <| v0 (S0.assign rfl) rfl <| vE <| WP.seq <| WP.region <| v0 (S0.move rfl) rfl <| v0 (S0.move rfl) rfl <| v0 (S0.move rfl) rfl <| ?_
    refine v0 (S0.indexN (k := 5) rfl rfl hlt) rfl <| ?_
    refine v0 (S0.loadA rfl gA rfl) rfl <| ?_
    refine vcd (S1.callC rfl rfl rfl (hc l[i] (List.getElem_mem hlt)) (take1 (atS at0) take0)) rfl ?_
    refine vE <| ?_
    first | refine WP.condP rfl (fun h2 => ?_) (fun h2 => ?_) | refine WP.condN rfl (fun h2 => ?_) (fun h2 => ?_) | refine WP.cond rfl (fun h2 => ?_) (fun h2 => ?_)
    · refine WP.seq <| WP.region <| v0 (S0.move rfl) rfl <| v0 (S0.assign rfl) rfl <| vE <| WP.ret <| ?_
      refine Leaves.drop (take1 (atS at0) (take1 at0 take0)) ?_
      refine r1 rfl rfl ⟨?_, rfl⟩
      rw [idxP_at hno hx h2]
    · refine WP.skip <| WP.region <| v0 (S0.ari rfl rfl rfl (wrap_i64 (by omega))) rfl <| v0 (S0.move rfl) rfl <| vE <| ?_
      exact ⟨i + 1, (by first | exact ⟨hlt, below_succ (p := fun y => p y = false) hno hx h2⟩ | (dsimp only; exact ⟨hlt, below_succ (p := fun y => p y = false) hno hx h2⟩)), (show l.length - (i + 1) < l.length - i by omega), ⟨⟨rfl, rfl, rfl, rfl, trivial⟩, rfl, rfl⟩, ⟨_, (take1 (atS at0) (take1 at0 take0))⟩⟩
  · refine WP.exit <| WP.seq <| WP.region <| v0 (S0.assign rfl) rfl <| vE <| WP.ret <| ?_
    refine r1 rfl rfl ⟨?_, rfl⟩
    rw [idxP_none fun j y hj => hno j y (by omega)]
theorem after1_spec (x : Nat × Ev) (bp : Nat) (p : Int) : FN Tryz.prog 67 (.agg ⟨enN x⟩ :: [ptrB bp]) [[(bp, cel [.int .i64 p] 3)]] (is (.bool (decide (p < (x.1 : Int)))) [[(bp, cel [.int .i64 p] 3)]]) := by
  refine FN.rest ?_
  refine FN.intro 8 [(0, .agg ⟨enN x⟩), (1, ptrB bp)] Tryz.func67 rfl (enters Tryz.func67 (by kernel_rfl) rfl) Tryz.ntmps67 rfl rfl ?_
  refine WP.seq <| WP.region <| vn (S1.box rfl rfl) rfl fun b2 => v0 (S0.assign rfl) rfl <| vE <| WP.seq <| WP.region <| v0 (S0.fieldAddr rfl) rfl <| v0 (S0.load rfl rfl) rfl <| v0 (S0.load rfl rfl) rfl <| v0 (S0.cmp rfl rfl rfl) rfl <| v0 (S0.assign rfl) rfl <| vE <| WP.ret <| ?_
  refine r1 rfl rfl ?_
  exact ⟨rfl, [(b2, cel (enN x) 102)], (pm fun a_ => by (try simp only [List.flatten_append, List.flatten_cons, List.flatten_nil, List.append_nil, List.cons_append, List.nil_append, List.append_assoc, nOf_app, nOf_cons, nOf_nil, Nat.add_zero, Nat.zero_add, List.map_append, List.map_cons, List.map_nil, cel, sv]); first | done | omega)⟩
def aftV (b : Ct) (p : Int) : Value := match afterK b p with
  | none => .tuple ⟨[.agg ⟨evB ev0⟩, .int .i64 0, .bool false]⟩
  | some x => .tuple ⟨[.agg ⟨evB x.2⟩, .int .i64 (x.1 : Int), .bool true]⟩
theorem ent_ev (sp : List Value) {L : List (Nat × Ev)} {i : Nat} {x : Nat × Ev} (h : L[i]? = some x) : ((L.flatMap enN ++ sp).drop (i * 6 + 1)).take 5 = evB x.2 := by
  have := flat_take enN_len sp L i x h
  rw [← List.drop_drop, show 5 = 6 - 1 from rfl, ← List.drop_take]
  rw [this]; rfl
theorem bafter_spec {bb lb : Nat} {b : Ct} {cc : List Blk} (h : IsCt bb lb b cc) (ho : CtW b) (p : Int) : FN Tryz.prog 22 [ptrB bb, .int .i64 p] [cc] (is (aftV b p) [cc]) := by
  obtain ⟨v, row, m, A, ck, hs, hA, rfl⟩ := h
  have hs0 := hs
  obtain ⟨a, cap, rfl, hcap, hrow⟩ := IsSl.elems (k := 5) enN_len hs
  have hl := ho.len
  refine FN.rest ?_
  refine FN.intro 33 [(0, ptrB bb), (1, .int .i64 p)] Tryz.func22 rfl (enters Tryz.func22 (by kernel_rfl) rfl) Tryz.ntmps22 rfl rfl ?_
  refine WP.perm (h' := [[bkB bb lb (.slice a b.L.length cap) m (b.n : Int)], [(m, mapO (Value.int .i64) A ck)], row]) (k := []) (pm fun a_ => by (try simp only [List.flatten_append, List.flatten_cons, List.flatten_nil, List.append_nil, List.cons_append, List.nil_append, List.append_assoc, nOf_app, nOf_cons, nOf_nil, Nat.add_zero, Nat.zero_add, List.map_append, List.map_cons, List.map_nil, cel, sv]); first | done | omega) ?_
  refine WP.seq <| WP.region <| vn (S1.box rfl rfl) rfl fun b3 => vn (S1.alloc) rfl fun b4 => v0 (S0.assign rfl) rfl <| v0 (S0.assign rfl) rfl <| vE <| WP.seq <| WP.region <| v0 (S0.move rfl) rfl <| v0 (S0.nilCheck rfl) rfl <| v0 (S0.fieldAddr rfl) rfl <| v0 (S0.load rfl rfl) rfl <| v0 (S0.makeFunc rfl rfl) rfl <| ?_
  refine vcd (S1.callF rfl (idxFuncN (p := fun x => decide (p < (x.1 : Int))) hs0 (by omega) (fun x _ => after1_spec x b3 p)) (take1 (atS (atS (atS (atS at0)))) (take1 (atS at0) take0))) rfl ?_
  refine v0 (S0.assign rfl) rfl <| vE <| WP.seq <| WP.seq <| WP.region <| v0 (S0.move rfl) rfl <| v0 (S0.cmp rfl rfl rfl) rfl <| vE <| ?_
  rcases idxP_find (fun x : Nat × Ev => decide (p < (x.1 : Int))) b.L with ⟨hneg, hf⟩ | ⟨i, x, hi, hx, hf, hlt, -⟩
  · refine WP.condTh rfl ((by simpa using hneg)) ?_
    refine WP.seq <| WP.region <| v0 (S0.build rfl (qs := []) rfl) rfl <| vs (S1.storeA rfl rfl rfl) <| v0 (S0.assign rfl) rfl <| v0 (S0.assign rfl) rfl <| vE <| WP.ret <| ?_
    exact rce rfl rfl (load_agg (vs := [.int .i64 0, .int .i64 0, .string ByteArray.empty, .string ByteArray.empty, .int .i64 0]) (n := 5) (U := 41) (fz := (0, 0)) (by simp) rfl) rfl rfl
      ⟨by unfold aftV afterK; rw [hf]; rfl, [(b3, cel [.int .i64 p] 3), (b4, cel [.int .i64 0, .int .i64 0, .string ByteArray.empty, .string ByteArray.empty, .int .i64 0] 41)], (pm fun a_ => by (try simp only [List.flatten_append, List.flatten_cons, List.flatten_nil, List.append_nil, List.cons_append, List.nil_append, List.append_assoc, nOf_app, nOf_cons, nOf_nil, Nat.add_zero, Nat.zero_add, List.map_append, List.map_cons, List.map_nil, cel, sv]); first | done | omega)⟩
  · refine WP.condFh rfl ((by simp; omega)) ?_
    rw [hi]
    rcases hrow with ⟨e, -⟩ | ⟨b1, sp1, rfl, rfl, hsp1⟩
    · rw [e] at hlt; simp at hlt
    have g0 : (b.L.flatMap enN ++ sp1)[i * 6 + 0]? = some (.int .i64 (x.1 : Int)) := flat_get enN_len sp1 b.L i 0 x hx (by decide)
    refine WP.skip <| WP.seq <| WP.drawP [(0, none), (1, none), (2, none), (3, none), (4, none), (5, none), (6, none), (7, none), (8, none), (9, none), (10, none), (11, none), (12, none), (13, none), (14, none), (15, none), (16, none), (17, none), (18, none)] mixed (by kernel_rfl) (by kernel_rfl) (by kernel_rfl) (take1 at0 (take1 (atS (atS at0)) take0)) <| w0 rfl rfl rfl (S0.move rfl) rfl <| w0 rfl rfl rfl (S0.nilCheck rfl) rfl <| w0 rfl rfl rfl (S0.fieldAddr rfl) rfl <| w0 rfl rfl rfl (S0.load rfl rfl) rfl <| w0 rfl rfl rfl (S0.move rfl) rfl <| ?_
    refine w0 rfl rfl rfl (S0.indexN (k := 6) rfl rfl hlt) rfl <| ?_
    refine w0 rfl rfl rfl (S0.fieldAddr rfl) rfl <| ?_
    refine w0 rfl rfl rfl (S0.loadA rfl (ent_ev sp1 hx) rfl) rfl <| ?_
    refine w0 rfl rfl rfl (S0.move rfl) rfl <| w0 rfl rfl rfl (S0.nilCheck rfl) rfl <| w0 rfl rfl rfl (S0.fieldAddr rfl) rfl <| w0 rfl rfl rfl (S0.load rfl rfl) rfl <| w0 rfl rfl rfl (S0.move rfl) rfl <| ?_
    refine w0 rfl rfl rfl (S0.indexN (k := 6) rfl rfl hlt) rfl <| ?_
    refine w0 rfl rfl rfl (S0.fieldAddr rfl) rfl <| ?_
    refine w0 rfl rfl rfl (S0.load rfl g0) rfl <| ?_
    refine ws rfl rfl rfl rfl (S1.storeA rfl rfl rfl) <| w0 rfl rfl rfl (S0.assign rfl) rfl <| w0 rfl rfl rfl (S0.assign rfl) rfl <| wE <| WP.ret <| ?_
    exact rce rfl rfl (load_agg (vs := evB x.2) (n := 5) (U := 41) (fz := (0, 0)) (by simp) rfl) rfl rfl
      ⟨by unfold aftV afterK; rw [hf], [(b3, cel [.int .i64 p] 3), (b4, cel (evB x.2) 41)], (pm fun a_ => by (try simp only [List.flatten_append, List.flatten_cons, List.flatten_nil, List.append_nil, List.cons_append, List.nil_append, List.append_assoc, nOf_app, nOf_cons, nOf_nil, Nat.add_zero, Nat.zero_add, List.map_append, List.map_cons, List.map_nil, cel, sv, evB]); first | done | omega)⟩
theorem missing1_spec (e : Ev) {bc m : Nat} {A : ML Int} {ck : Nat} {had : Int → Int} (hA : ∀ o, (getM A o).getD (.int .i64 0) = .int .i64 (had o)) : FN Tryz.prog 69 (.agg ⟨evB e⟩ :: [ptrB bc]) [[(bc, cel [.map (some m)] 76), (m, mapO (Value.int .i64) A ck)]] (is (.bool (decide (e.s ≤ had e.o))) [[(bc, cel [.map (some m)] 76), (m, mapO (Value.int .i64) A ck)]]) := by
  refine FN.rest ?_
  refine FN.intro 11 [(0, .agg ⟨evB e⟩), (1, ptrB bc)] Tryz.func69 rfl (enters Tryz.func69 (by kernel_rfl) rfl) Tryz.ntmps69 rfl rfl ?_
  refine WP.seq <| WP.region <| vn (S1.box rfl rfl) rfl fun b2 => v0 (S0.assign rfl) rfl <| vE <| WP.seq <| WP.region <| v0 (S0.fieldAddr rfl) rfl <| v0 (S0.load rfl rfl) rfl <| v0 (S0.load rfl rfl) rfl <| v0 (S0.fieldAddr rfl) rfl <| v0 (S0.load rfl rfl) rfl <| ?_
  refine v0 (S0.lookupV (ek := Value.int .i64) (k := e.o) (v := .int .i64 (had e.o)) rfl rfl (hA e.o)) rfl <| ?_
  refine v0 (S0.cmp rfl rfl rfl) rfl <| v0 (S0.assign rfl) rfl <| vE <| WP.ret <| ?_
  refine r1 rfl rfl ?_
  exact ⟨rfl, [(b2, cel (evB e) 41)], (pm fun a_ => by (try simp only [List.flatten_append, List.flatten_cons, List.flatten_nil, List.append_nil, List.cons_append, List.nil_append, List.append_assoc, nOf_app, nOf_cons, nOf_nil, Nat.add_zero, Nat.zero_add, List.map_append, List.map_cons, List.map_nil, cel, sv]); first | done | omega)⟩
theorem flat_setA {α : Type} {en : α → List Value} {k : Nat} (hk : ∀ x, (en x).length = k) (sp : List Value) {R : List α} {i : Nat} {y : α} (h : i < R.length) : SetR (R.flatMap en ++ sp) (i * k) (en y) ((R.set i y).flatMap en ++ sp) := by
  have e1 : R = R.take i ++ R[i] :: R.drop (i + 1) := by rw [← List.drop_eq_getElem_cons h, List.take_append_drop]
  have e2 : R.set i y = R.take i ++ y :: R.drop (i + 1) := by rw [List.set_eq_take_append_cons_drop, if_pos h]
  have hl : ((R.take i).flatMap en).length = i * k := by rw [flat_len hk, List.length_take, Nat.min_eq_left (by omega)]
  have hX : R.flatMap en ++ sp = (R.take i).flatMap en ++ (en R[i] ++ ((R.drop (i + 1)).flatMap en ++ sp)) := by
    have := congrArg (fun Z : List α => Z.flatMap en ++ sp) e1
    rw [List.flatMap_append, List.flatMap_cons, List.append_assoc, List.append_assoc] at this
    exact this
  constructor
  constructor
  · rw [hX, ← hl, List.take_left, ← List.drop_drop, List.drop_left, hk y, ← hk R[i], List.drop_left, e2]
    simp
  · rw [List.length_append, flat_len hk, hk]
    have := Nat.mul_le_mul_right k h
    rw [Nat.succ_mul] at this; omega
theorem zerosE (n : Nat) : ∀ v ∈ (Builtin.zeroCells (Value.agg #[.int .i64 0, .int .i64 0, .string ByteArray.empty, .string ByteArray.empty, .int .i64 0]).cells n).toList, cellV v = true := by
  intro v hv
  simp only [Builtin.zeroCells, Value.cells, Array.toList_map, List.mem_map] at hv
  obtain ⟨j, -, rfl⟩ := hv
  have hq : j % 5 < 5 := Nat.mod_lt _ (by decide)
  show cellV (#[Value.int .i64 0, .int .i64 0, .string ByteArray.empty, .string ByteArray.empty, .int .i64 0][j % 5]!) = true
  generalize j % 5 = q at hq
  match q, hq with
  | 0, _ => rfl
  | 1, _ => rfl
  | 2, _ => rfl
  | 3, _ => rfl
  | 4, _ => rfl
theorem zerosE_len (n : Nat) : (Builtin.zeroCells (Value.agg #[.int .i64 0, .int .i64 0, .string ByteArray.empty, .string ByteArray.empty, .int .i64 0]).cells n).toList.length = n * 5 := by
  simp [Builtin.zeroCells, Value.cells]
theorem delE_spec {g : Nat} {caps : List Value} {cm : List Blk} {p : Ev → Bool} {l : List Ev} {v : Value} {row : List Blk} (hs : IsSl 41 5 v (evsB l) row) (hl : l.length ≤ 1000) (hc : ∀ x ∈ l, FN Tryz.prog g (.agg ⟨evB x⟩ :: caps) [cm] (is (.bool (p x)) [cm])) :
    FN Tryz.prog 68 [v, .func (.func g) ⟨[]⟩ ⟨caps⟩] [row, cm] (fun u h => ∃ row2, IsSl 41 5 u (evsB (l.filter fun x => !p x)) row2 ∧ h = [row2, cm]) := by
  have hs0 := hs
  obtain ⟨a, cap, rfl, hcap, hrow⟩ := IsSl.elems (k := 4) evB_len hs
  refine FN.intro 42 [(0, .slice a l.length cap), (1, .func (.func g) ⟨[]⟩ ⟨caps⟩)] Tryz.func68 rfl (enters Tryz.func68 (by kernel_rfl) rfl) Tryz.ntmps68 rfl rfl ?_
  refine WP.seq <| WP.region <| v0 (S0.assign rfl) rfl <| vE <| WP.seq <| WP.region <| v0 (S0.move rfl) rfl <| v0 (S0.move rfl) rfl <| ?_
  refine vcd (S1.callF rfl (idxFuncE (p := p) hs0 (by omega) hc) (take1 at0 (take1 at0 take0))) rfl ?_
  refine v0 (S0.assign rfl) rfl <| vE <| WP.seq <| WP.seq <| WP.region <| v0 (S0.move rfl) rfl <| v0 (S0.cmp rfl rfl rfl) rfl <| vE <| ?_
  rcases idxP_find p l with ⟨hneg, hf⟩ | ⟨i, x, hi, hx, hf, hlt, hno⟩
  · have e1 : idxP p l = -1 := by unfold idxP at hneg ⊢; cases hq : l.findIdx? p with | none => rfl | some j => rw [hq] at hneg; simp at hneg; omega
    have e2 : l.filter (fun x => !p x) = l := List.filter_eq_self.2 fun y hy => by have := List.find?_eq_none.1 hf y hy; simpa using this
    refine WP.condTh rfl ((by rw [e1]; rfl)) ?_
    refine WP.seq <| WP.region <| v0 (S0.move rfl) rfl <| v0 (S0.assign rfl) rfl <| vE <| WP.ret <| ?_
    refine r1 rfl rfl ?_
    rw [e2]; exact ⟨row, hs0, rfl⟩
  · refine WP.condFh rfl ((by rw [hi]; simp)) ?_
    rw [hi]
    have hpx : p x = true := List.find?_some hf
    rcases hrow with ⟨e, -⟩ | ⟨b1, sp1, rfl, rfl, hsp1⟩
    · rw [e] at hlt; simp at hlt
    have htk0 : l.take i = (l.take (i + 1)).filter fun x => !p x := by
      rw [List.take_add_one, hx, List.filter_append]
      have e1 : (l.take i).filter (fun x => !p x) = l.take i := List.filter_eq_self.2 fun y hy => by
        obtain ⟨j, hj, rfl⟩ := List.getElem_of_mem hy
        rw [List.length_take] at hj
        have := hno j l[j] (by omega) (List.getElem?_eq_getElem (by omega))
        rw [List.getElem_take, this]; rfl
      rw [e1]; simp [hpx]
    refine WP.skip <| WP.seq <| WP.seq <| WP.region <| v0 (S0.move rfl) rfl <| v0 (S0.ari rfl rfl rfl (wrap_i64 (by omega))) rfl <| v0 (S0.assign rfl) rfl <| vE <| WP.block <| ?_
    refine WP.loop (fun st : Nat × Nat × List Ev => st.1 < st.2.1 ∧ st.2.1 ≤ l.length ∧ st.2.2.length = l.length ∧ st.2.2.take st.1 = (l.take st.2.1).filter (fun x => !p x) ∧ st.2.2.drop st.2.1 = l.drop st.2.1) (fun st : Nat × Nat × List Ev => [(0, .slice (some ⟨b1, 0, none⟩) l.length cap), (1, .func (.func g) ⟨[]⟩ ⟨caps⟩), (5, .int .i64 (st.1 : Int)), (6, .int .i64 (st.2.1 : Int))]) (fun st : Nat × Nat × List Ev => [[(b1, .cells ⟨st.2.2.flatMap evB ++ sp1⟩ 41 (0, 0))], cm]) (fun st : Nat × Nat × List Ev => l.length - st.2.1) ((i, i + 1, l)) (⟨Nat.lt_succ_self i, hlt, rfl, htk0, rfl⟩) ⟨rfl, rfl, rfl, rfl, trivial⟩ ⟨_, (take1 at0 (take1 at0 take0))⟩ (fun st hinv => ?_)
    clear htk0 hno hx hi
    obtain ⟨i, j, R⟩ := st
    obtain ⟨hij, hj, hR, htk, hdr⟩ := hinv
    dsimp only at hij hj hR htk hdr ⊢
    refine WP.seq <| WP.seq <| WP.region <| v0 (S0.move rfl) rfl <| v0 (S0.move rfl) rfl <| v0 (S0.lenSl rfl) rfl <| v0 (S0.cmp rfl rfl rfl) rfl <| vE <| ?_
    first | refine WP.condP rfl (fun h1 => ?_) (fun h1 => ?_) | refine WP.condN rfl (fun h1 => ?_) (fun h1 => ?_) | refine WP.cond rfl (fun h1 => ?_) (fun h1 => ?_)
    · have hjl : j < l.length := by omega
      have hy : l[j]? = some l[j] := by simp [hjl]
      have hyR : R[j]? = some l[j] := by
        have := congrArg (fun Z : List Ev => Z[0]?) hdr
        simpa [hjl] using this
      have hcy := hc l[j] (List.getElem_mem hjl)
      have htk2 : (l.take (j + 1)).filter (fun x => !p x) = (l.take j).filter (fun x => !p x) ++ (if p l[j] = true then [] else [l[j]]) := by
        rw [List.take_add_one, hy, List.filter_append]
        cases hq : p l[j] <;> simp [hq]
      have hdr2 : R.drop (j + 1) = l.drop (j + 1) := by rw [← List.drop_drop, ← List.drop_drop, hdr]
      generalize l[j] = y at hy hyR hcy htk2
      have gA := flat_take evB_len sp1 R j y hyR
      refine WP.skip <| WP.seq <| WP.block <| WP.seq <| WP.region <| v0 (S0.move rfl) rfl <| v0 (S0.move rfl) rfl <| ?_
      refine v0 (S0.indexN (k := 5) rfl rfl hjl) rfl <| ?_
      refine v0 (S0.loadA rfl gA rfl) rfl <| ?_
      refine vn (S1.alloc) rfl fun b7 => vs (S1.storeA rfl rfl rfl) <| vE <| WP.seq <| WP.region <| v0 (S0.move rfl) rfl <| v0 (S0.loadAL rfl) rfl <| ?_
      refine vcd (S1.callC rfl rfl rfl (hcy) (take1 (atS (atS at0)) take0)) rfl ?_
      refine v0 (S0.not rfl) rfl <| vE <| ?_
      cases hq : p y with
      | false =>
        rw [hq, if_neg (by decide)] at htk2
        have hiR : i < R.length := by omega
        have hset := flat_setA (k := 4 + 1) evB_len sp1 (y := y) hiR
        have htk3 : (R.set i y).take (i + 1) = R.take i ++ [y] := by
          rw [List.take_add_one, List.take_set, List.set_eq_of_length_le (by rw [List.length_take]; omega), List.getElem?_set_self hiR]; rfl
        have hdr3 : (R.set i y).drop (j + 1) = l.drop (j + 1) := by rw [List.drop_set, if_pos (by omega)]; exact hdr2
        refine WP.condTh rfl (rfl) ?_
        refine WP.seq <| WP.region <| v0 (S0.move rfl) rfl <| v0 (S0.move rfl) rfl <| v0 (S0.loadAL rfl) rfl <| ?_
        refine v0 (S0.indexN (k := 5) rfl rfl (show i < l.length by omega)) rfl <| ?_
        refine vs (S1.storeA (l' := (R.set i y).flatMap evB ++ sp1) (hs := hset) rfl rfl rfl) <| ?_
        refine vE <| WP.region <| v0 (S0.move rfl) rfl <| v0 (S0.ari rfl rfl rfl (wrap_i64 (by omega))) rfl <| v0 (S0.assign rfl) rfl <| vE <| WP.region <| v0 (S0.move rfl) rfl <| v0 (S0.ari rfl rfl rfl (wrap_i64 (by omega))) rfl <| v0 (S0.assign rfl) rfl <| vE <| ?_
        exact ⟨(i + 1, j + 1, R.set i y), (by first | exact ⟨by omega, hjl, by rw [List.length_set]; exact hR, by rw [htk3, htk2, htk], hdr3⟩ | (dsimp only; exact ⟨by omega, hjl, by rw [List.length_set]; exact hR, by rw [htk3, htk2, htk], hdr3⟩)), (show l.length - (j + 1) < l.length - j by omega), ⟨⟨rfl, rfl, rfl, rfl, trivial⟩, rfl, rfl⟩, ⟨_, (take1 (atS (atS at0)) (take1 at0 take0))⟩⟩
      | true =>
        rw [hq, if_pos rfl, List.append_nil] at htk2
        refine WP.condFh rfl (rfl) ?_
        refine WP.skip <| WP.region <| v0 (S0.move rfl) rfl <| v0 (S0.ari rfl rfl rfl (wrap_i64 (by omega))) rfl <| v0 (S0.assign rfl) rfl <| vE <| ?_
        exact ⟨(i, j + 1, R), (by first | exact ⟨by omega, hjl, hR, by rw [htk2]; exact htk, hdr2⟩ | (dsimp only; exact ⟨by omega, hjl, hR, by rw [htk2]; exact htk, hdr2⟩)), (show l.length - (j + 1) < l.length - j by omega), ⟨⟨rfl, rfl, rfl, rfl, trivial⟩, rfl, rfl⟩, ⟨_, (take1 (atS (atS at0)) (take1 at0 take0))⟩⟩
    · have e : j = l.length := by omega
      subst e
      rw [List.take_length] at htk
      have hilt : i < l.length := hij
      have hci : ¬ cap = i := by omega
      have hfl : (R.flatMap evB).length = l.length * 5 := by rw [flat_len evB_len, hR]
      rw [List.length_append, flat_len evB_len] at hsp1
      refine WP.exit <| WP.seq <| WP.region <| v0 (S0.move rfl) rfl <| v0 (S0.move rfl) rfl <| ?_
      refine v0 (S0.slice (i := i) (j := l.length) rfl rfl rfl ⟨by omega, hcap⟩) rfl <| ?_
      rw [if_neg hci]
      refine vs (S1.clearSl (k := 5) rfl (by omega) (by rw [List.length_append, hfl]; omega) rfl (zerosE _)) <| ?_
      refine vE <| WP.seq <| WP.region <| v0 (S0.move rfl) rfl <| v0 (S0.move rfl) rfl <| ?_
      refine v0 (S0.sliceTo (j := i) rfl rfl (by omega)) rfl <| ?_
      refine v0 (S0.assign rfl) rfl <| vE <| WP.ret <| ?_
      have hzl := zerosE_len (l.length - i)
      generalize (Builtin.zeroCells (Value.agg #[.int .i64 0, .int .i64 0, .string ByteArray.empty, .string ByteArray.empty, .int .i64 0]).cells (l.length - i)).toList = Z at hzl
      have e1 : (R.flatMap evB ++ sp1).take (0 + i * 5) = evsB (l.filter fun x => !p x) := by
        have := flat_sub (k := 5) evB_len sp1 R 0 i (Nat.zero_le _) (by omega)
        simp only [Nat.zero_mul, List.drop_zero, Nat.sub_zero] at this
        rw [Nat.zero_add, this, htk]
      have e2 : (evsB (l.filter fun x => !p x)).length = i * 5 := by rw [← e1, List.length_take, List.length_append, hfl]; omega
      rw [e1, List.append_assoc]
      refine r1 rfl rfl ?_
      exact ⟨_, IsSl.row (n := i) (c := cap) (l := evsB (l.filter fun x => !p x)) e2 (by rw [List.length_append, List.length_append, e2, hzl, List.length_drop, List.length_append, hfl]; omega) (by omega), rfl⟩
theorem hadL_snoc (l : List MkT) (z : MkT) (o : Int) : hadL (l ++ [z]) o = if o = z.1 then z.2 else hadL l o := by
  unfold hadL
  rw [List.foldl_append]
  simp only [List.foldl_cons, List.foldl_nil]
  by_cases h : z.1 = o
  · rw [if_pos h, if_pos h.symm]
  · rw [if_neg h, if_neg (fun e => h e.symm)]
theorem bmissing_spec {bb lb : Nat} {b : Ct} {cc : List Blk} (h : IsCt bb lb b cc) (ho : CtW b) {l : List MkT} {mv : Value} {mrow : List Blk} (hms : Rd 2 enM mv l mrow) (hl : l.length ≤ 1000000) : FN Tryz.prog 25 [ptrB bb, mv] [cc, mrow] (fun u h => ∃ row, IsSl 41 5 u (evsB (missK b l)) row ∧ h = [row, cc, mrow]) := by
  obtain ⟨ma, mcap, rfl, hmcap, hmrow⟩ := hms
  refine FN.intro 25 [(0, ptrB bb), (1, .slice ma l.length mcap)] Tryz.func25 rfl (enters Tryz.func25 (by kernel_rfl) rfl) Tryz.ntmps25 rfl rfl ?_
  refine WP.seq <| WP.region <| v0 (S0.assign rfl) rfl <| vE <| WP.seq <| WP.region <| vnv (S1.makeMap) rfl fun b8 => vn (S1.alloc) rfl fun b5 => vs (S1.store rfl rfl (by first | rfl | exact IsSl.cv (by assumption))) <| vE <| WP.seq <| WP.seq <| WP.region <| v0 (S0.move rfl) rfl <| v0 (S0.lenSl rfl) rfl <| v0 (S0.move rfl) rfl <| vE <| WP.block <| ?_
  refine WP.loop (fun st : Nat × ML Int × Nat => st.1 ≤ l.length ∧ WfM st.2.1 st.2.2 ∧ ∀ o, (getM st.2.1 o).getD (.int .i64 0) = .int .i64 (hadL (l.take st.1) o)) (fun st : Nat × ML Int × Nat => [(0, ptrB bb), (5, .pointer (some ⟨b5, 0, none⟩)), (9, .slice ma l.length mcap), (10, .int .i64 (l.length : Int)), (11, .int .i64 (st.1 : Int))]) (fun st : Nat × ML Int × Nat => [[(b8, mapO (Value.int .i64) st.2.1 st.2.2)], [(b5, cel [.map (some b8)] 76)], mrow, cc]) (fun st : Nat × ML Int × Nat => l.length - st.1) ((0, [], 0)) (⟨Nat.zero_le _, WfM.nil, fun _ => rfl⟩) ⟨rfl, rfl, rfl, rfl, rfl, trivial⟩ ⟨[], (pm fun a_ => by (try simp only [List.flatten_append, List.flatten_cons, List.flatten_nil, List.append_nil, List.cons_append, List.nil_append, List.append_assoc, nOf_app, nOf_cons, nOf_nil, Nat.add_zero, Nat.zero_add, List.map_append, List.map_cons, List.map_nil, cel, sv, nilE, mapO]); first | done | omega)⟩ (fun st hinv => ?_)
  obtain ⟨k, A, ck⟩ := st
  obtain ⟨hk, hw, hg⟩ := hinv
  dsimp only at hk hw hg ⊢
  refine WP.seq <| WP.region <| v0 (S0.cmp rfl rfl rfl) rfl <| vE <| WP.seq <| ?_
  first | refine WP.condP rfl (fun h1 => ?_) (fun h1 => ?_) | refine WP.condN rfl (fun h1 => ?_) (fun h1 => ?_) | refine WP.cond rfl (fun h1 => ?_) (fun h1 => ?_)
  · have hlt : k < l.length := by omega
    rcases hmrow with rfl | ⟨b1, o1, GL, U1, fz1, rfl, hmem, hel⟩
    · simp at hlt
    have im : HasC mrow b1 (.cells ⟨GL⟩ U1 fz1) := ⟨hmem⟩
    have hx : l[k]? = some l[k] := by simp [hlt]
    generalize l[k] = x at hx
    have hg2 : ∀ o, (getM (putM A ck x.1 (.int .i64 x.2)) o).getD (.int .i64 0) = .int .i64 (hadL (l.take (k + 1)) o) := fun o => by
      rw [get_put, List.take_add_one, hx, Option.toList_some, hadL_snoc]
      by_cases e : o = x.1
      · rw [if_pos e, if_pos e]; rfl
      · rw [if_neg e, if_neg e]; exact hg o
    refine WP.skip <| WP.seq <| WP.block <| WP.seq <| WP.region <| ?_
    refine v0 (S0.indexO (k := 2) rfl rfl hlt) rfl <| ?_
    refine v0 (S0.loadA rfl (hel k x hx) rfl) rfl <| ?_
    refine vn (S1.alloc) rfl fun b7 => vs (S1.storeA rfl rfl rfl) <| vE <| WP.region <| v0 (S0.load rfl rfl) rfl <| v0 (S0.fieldAddr rfl) rfl <| v0 (S0.load rfl rfl) rfl <| v0 (S0.fieldAddr rfl) rfl <| v0 (S0.load rfl rfl) rfl <| ?_
    refine vs (S1.mapUpdate (ek := Value.int .i64) (k := x.1) rfl rfl rfl) <| ?_
    refine vE <| WP.region <| v0 (S0.ari rfl rfl rfl (wrap_i64 (by omega))) rfl <| v0 (S0.move rfl) rfl <| vE <| ?_
    exact ⟨(k + 1, putM A ck x.1 (.int .i64 x.2), clkM A ck x.1), (by first | exact ⟨hlt, hw.put _ _, hg2⟩ | (dsimp only; exact ⟨hlt, hw.put _ _, hg2⟩)), (show l.length - (k + 1) < l.length - k by omega), ⟨⟨rfl, rfl, rfl, rfl, rfl, trivial⟩, rfl, rfl⟩, ⟨_, (take1 (atS at0) (take1 (atS at0) (take1 (atS at0) (take1 (atS at0) take0))))⟩⟩
  · have e : k = l.length := by omega
    rw [e, List.take_length] at hg
    have hel : ((b.L.map (·.2)).length) ≤ 64 := by rw [List.length_map]; exact ho.len
    refine WP.exit <| WP.seq <| WP.region <| v0 (S0.move rfl) rfl <| ?_
    refine vc (S1.callF rfl (list_spec h ho) (take1 (atS (atS (atS at0))) take0)) rfl ?_
    rintro lv _ ⟨row, hls, rfl⟩
    refine app ?_
    refine v0 (S0.makeFunc rfl rfl) rfl <| ?_
    refine WO.perm (h' := [row, [(b5, cel [.map (some b8)] 76), (b8, mapO (Value.int .i64) A ck)], cc, mrow]) (k := []) (pm fun a_ => by (try simp only [List.flatten_append, List.flatten_cons, List.flatten_nil, List.append_nil, List.cons_append, List.nil_append, List.append_assoc, nOf_app, nOf_cons, nOf_nil, Nat.add_zero, Nat.zero_add, List.map_append, List.map_cons, List.map_nil, cel, sv]); first | done | omega) ?_
    refine vc (S1.callF rfl (delE_spec (p := fun e => decide (e.s ≤ hadL l e.o)) hls (by omega) (fun x _ => missing1_spec x hg)) (take1 at0 (take1 at0 take0))) rfl ?_
    rintro v2 _ ⟨row2, hs2, rfl⟩
    refine app ?_
    refine v0 (S0.assign rfl) rfl <| vE <| WP.ret <| ?_
    refine Leaves.drop (take1 at0 (take1 (atS at0) (take1 (atS at0) take0))) ?_
    refine r1 rfl rfl ?_
    refine ⟨row2, ?_, rfl⟩
    have e2 : missK b l = (b.L.map (·.2)).filter fun x => !decide (x.s ≤ hadL l x.o) := by
      unfold missK
      congr 1
      funext e
      rw [Bool.eq_iff_iff]; simp
    rw [e2]; exact hs2
theorem putE_le {e : Ev} (h : rightE e = true) : (putE e).length ≤ 300 := by
  obtain ⟨h1, h2⟩ := right_tl h
  have e0 : putE e = putV e.o.toNat ++ putV e.s.toNat ++ putV e.e.toNat ++ textB e.t ++ textB e.l := by unfold putE; rw [if_pos h]
  have a1 := putV_le e.o.toNat
  have a2 := putV_le e.s.toNat
  have a3 := putV_le e.e.toNat
  have a4 := putV_le e.t.length
  have a5 := putV_le e.l.length
  rw [e0]; simp only [textB, List.length_append]; omega
theorem entB_le {x : Nat × Ev} (h : rightE x.2 = true) : (entB x).length ≤ 309 := by
  have h1 := putE_le h
  have h2 := putV_le x.1
  unfold entB; rw [List.length_append]; omega
theorem ents_le : ∀ (L : List (Nat × Ev)), (∀ x ∈ L, rightE x.2 = true) → (L.flatMap entB).length ≤ 309 * L.length
  | [], _ => Nat.le_refl _
  | x :: L, h => by
    have h1 := ents_le L fun y hy => h y (by simp [hy])
    have h2 := entB_le (h x (by simp))
    rw [List.flatMap_cons, List.length_append, List.length_cons]; omega
theorem mksB_le (M : List MkT) : (marksB M).length ≤ 1000 := by
  unfold marksB
  by_cases h : sortedM M = true
  · rw [if_pos h]
    obtain ⟨-, -, h3⟩ := sortedM_iff.1 h
    have h1 := marksT_le h3 M.length
    rw [List.take_length] at h1
    have h2 := putV_le M.length
    rw [List.length_append]; omega
  · rw [if_neg h]; simp
theorem bbytes_spec {bb lb : Nat} {b : Ct} {cc : List Blk} (h : IsCt bb lb b cc) (ho : CtW b) (hn : b.n ≤ 4000000000000) : FN Tryz.prog 97 [ptrB bb] [cc] (is (sv (bytesK b)) [cc]) := by
  have h0 := h
  obtain ⟨v, row, m, A, ck, hs, hA, rfl⟩ := h
  obtain ⟨a, cap, rfl, hcap, hrow⟩ := IsSl.elems (k := 5) enN_len hs
  obtain ⟨hris, hlM⟩ := ho.ris
  have hl := ho.len
  have l1 := putV_le b.n
  have l2 := mksB_le b.M
  have l3 := putV_le b.L.length
  refine FN.rest ?_
  refine FN.intro 45 [(0, ptrB bb)] Tryz.func97 rfl (enters Tryz.func97 (by kernel_rfl) rfl) Tryz.ntmps97 rfl rfl ?_
  refine WP.seq <| WP.region <| v0 (S0.assign rfl) rfl <| vE <| ?_
  refine WP.seq <| WP.drawP [(0, none), (1, none), (2, none), (3, none), (4, none), (6, none), (10, none), (11, none), (12, none), (13, none), (14, none), (15, none), (5, none), (7, none), (8, none), (9, none), (16, none), (17, none), (18, none)] mixed (by kernel_rfl) (by kernel_rfl) (by kernel_rfl) (take1 at0 take0) <| w0 rfl rfl rfl (S0.move rfl) rfl <| w0 rfl rfl rfl (S0.nilCheck rfl) rfl <| w0 rfl rfl rfl (S0.fieldAddr rfl) rfl <| w0 rfl rfl rfl (S0.load rfl rfl) rfl <| w0 rfl rfl rfl (S0.convI rfl (wrap_u64 (by omega))) rfl <| w0 rfl rfl rfl (S0.move rfl) rfl <| w0 rfl rfl rfl (S0.move rfl) rfl <| w0 rfl rfl rfl (S0.nilCheck rfl) rfl <| w0 rfl rfl rfl (S0.fieldAddr rfl) rfl <| w0 rfl rfl rfl (S0.load rfl rfl) rfl <| w0 rfl rfl rfl (S0.lenSl rfl) rfl <| w0 rfl rfl rfl (S0.convI rfl (wrap_u64 (by omega))) rfl <| ?_
  refine wcd rfl rfl rfl rfl (S1.callF rfl (put_spec (n := b.n) (by omega)) take0) rfl ?_
  refine weS rfl rfl rfl rfl (S1.callF rfl (bmarks_spec h0 ho) (take1 at0 take0)) rfl ?_
  rintro _ _ ⟨_, ⟨mrow, hms, rfl⟩, rfl⟩
  refine ⟨_, (take1 (atS at0) take0), ?_⟩
  refine wcd rfl rfl rfl rfl (S1.callF rfl (marks_spec hms (by omega)) (take1 at0 take0)) rfl ?_
  refine w0 rfl rfl rfl (S0.addS rfl rfl (by omega)) rfl <| ?_
  refine wcd rfl rfl rfl rfl (S1.callF rfl (put_spec (n := b.L.length) (by omega)) take0) rfl ?_
  refine w0 rfl rfl rfl (S0.addS rfl rfl (by rw [List.length_append]; omega)) rfl <| ?_
  refine w0 rfl rfl rfl (S0.assign rfl) rfl <| wE <| WP.seq <| WP.seq <| WP.region <| v0 (S0.move rfl) rfl <| v0 (S0.nilCheck rfl) rfl <| v0 (S0.fieldAddr rfl) rfl <| v0 (S0.load rfl rfl) rfl <| v0 (S0.lenSl rfl) rfl <| v0 (S0.move rfl) rfl <| vE <| WP.block <| ?_
  rw [show putV b.n ++ marksB b.M ++ putV b.L.length = (putV b.n ++ marksB b.M ++ putV b.L.length) ++ (b.L.take 0).flatMap entB by simp]
  refine WP.loop (fun k : Nat => k ≤ b.L.length) (fun k : Nat => [(3, sv ((putV b.n ++ marksB b.M ++ putV b.L.length) ++ (b.L.take k).flatMap entB)), (27, .slice a b.L.length cap), (28, .int .i64 (b.L.length : Int)), (29, .int .i64 (k : Int))]) (fun k : Nat => [bkB bb lb (.slice a b.L.length cap) m (b.n : Int) :: (m, mapO (Value.int .i64) A ck) :: row]) (fun k : Nat => b.L.length - k) (0) (Nat.zero_le _) ⟨rfl, rfl, rfl, rfl, trivial⟩ ⟨_, (take1 at0 take0)⟩ (fun k hinv => ?_)
  have hte := ents_le (b.L.take k) fun y hy => (ho.ev y (List.mem_of_mem_take hy)).1
  have htl : (b.L.take k).length ≤ 64 := by rw [List.length_take]; omega
  refine WP.seq <| WP.region <| v0 (S0.cmp rfl rfl rfl) rfl <| vE <| WP.seq <| ?_
  first | refine WP.condP rfl (fun h1 => ?_) (fun h1 => ?_) | refine WP.condN rfl (fun h1 => ?_) (fun h1 => ?_) | refine WP.cond rfl (fun h1 => ?_) (fun h1 => ?_)
  · have hlt : k < b.L.length := by omega
    rcases hrow with ⟨e, -⟩ | ⟨b1, sp1, rfl, rfl, hsp1⟩
    · rw [e] at hlt; simp at hlt
    have hx : b.L[k]? = some b.L[k] := by simp [hlt]
    have hxm := ho.ev _ (List.getElem_mem hlt)
    generalize b.L[k] = x at hx hxm
    have gA := flat_take enN_len sp1 b.L k x hx
    have htk : (b.L.take (k + 1)).flatMap entB = (b.L.take k).flatMap entB ++ (putV x.1 ++ putE x.2) := by rw [List.take_add_one, hx]; simp
    obtain ⟨ht1, ht2⟩ := right_tl hxm.1
    have hpe := putE_le hxm.1
    have hpx := putV_le x.1
    refine WP.skip <| WP.seq <| WP.block <| WP.seq <| WP.region <| ?_
    refine v0 (S0.indexN (k := 6) rfl rfl hlt) rfl <| ?_
    refine v0 (S0.loadA rfl gA rfl) rfl <| ?_
    refine vn (S1.alloc) rfl fun b5 => vs (S1.storeA rfl rfl rfl) <| vE <| WP.drawP [(0, none), (1, none), (2, none), (3, none), (5, none), (6, none), (4, none), (7, none), (8, none), (9, none), (10, none)] mixed (by kernel_rfl) (by kernel_rfl) (by kernel_rfl) (take1 at0 take0) <| w0 rfl rfl rfl (S0.move rfl) rfl <| w0 rfl rfl rfl (S0.fieldAddr rfl) rfl <| w0 rfl rfl rfl (S0.load rfl rfl) rfl <| w0 rfl rfl rfl (S0.convI rfl (wrap_u64 (by omega))) rfl <| w0 rfl rfl rfl (S0.fieldAddr rfl) rfl <| w0 rfl rfl rfl (S0.loadAL rfl) rfl <| ?_
    refine wcd rfl rfl rfl rfl (S1.callF rfl (put_spec (n := x.1) (by omega)) take0) rfl ?_
    refine wcd rfl rfl rfl rfl (S1.callF rfl (eput_spec (e := x.2) (by omega) (by omega)) take0) rfl ?_
    refine w0 rfl rfl rfl (S0.addS rfl rfl (by omega)) rfl <| ?_
    refine w0 rfl rfl rfl (S0.addS rfl rfl (by simp only [List.length_append]; omega)) rfl <| ?_
    rw [List.append_assoc _ ((b.L.take k).flatMap entB), ← htk]
    refine w0 rfl rfl rfl (S0.assign rfl) rfl <| wE <| WP.region <| v0 (S0.ari rfl rfl rfl (wrap_i64 (by omega))) rfl <| v0 (S0.move rfl) rfl <| vE <| ?_
    exact ⟨k + 1, (by first | exact hlt | (dsimp only; exact hlt)), (show b.L.length - (k + 1) < b.L.length - k by omega), ⟨⟨rfl, rfl, rfl, rfl, trivial⟩, rfl, rfl⟩, ⟨_, (take1 (atS at0) take0)⟩⟩
  · have e : k = b.L.length := by omega
    rw [e, List.take_length]
    refine WP.exit <| WP.seq <| WP.region <| v0 (S0.move rfl) rfl <| v0 (S0.assign rfl) rfl <| vE <| WP.ret <| ?_
    refine r1 rfl rfl ?_
    exact ⟨rfl, [], (pm fun a_ => by (try simp only [List.flatten_append, List.flatten_cons, List.flatten_nil, List.append_nil, List.cons_append, List.nil_append, List.append_assoc, nOf_app, nOf_cons, nOf_nil, Nat.add_zero, Nat.zero_add, List.map_append, List.map_cons, List.map_nil, cel, sv]); first | done | omega)⟩
end Go.Proofs.YtjpjebfodhbdfaaGreatDoor
namespace Go.Proofs.YtjpjebfodhbdfaaGreatDoor
open Go
abbrev errF : Value := .iface 33 (.int .i64 4)
theorem must_spec (b : Bool) : FX Tryz.prog 84 [.bool b] [] (fun v h => b = true ∧ v = .tuple ⟨[]⟩ ∧ h = []) (fun v h => b = false ∧ v = errF ∧ h = []) := by
  refine FX.intro 5 [(0, .bool b)] Tryz.func84 rfl (enters Tryz.func84 (by kernel_rfl) rfl) Tryz.ntmps84 rfl rfl ?_
  refine WP.seq <| WP.region <| v0 (S0.move rfl) rfl <| v0 (S0.not rfl) rfl <| vE <| ?_
  cases b with
  | false =>
    refine WP.condTh rfl (rfl) ?_
    refine WP.region <| v0 (S0.mkI (by kernel_rfl) rfl) rfl <| ?_
    refine WO.panic rfl ?_
    exact ⟨rfl, _, rfl, rfl, rfl, rfl⟩
  | true =>
    refine WP.condFh rfl (rfl) ?_
    refine WP.skip <| ?_
    refine r0 rfl ?_
    exact ⟨rfl, rfl, rfl⟩
theorem numK_le {s : Str} {a n b : Nat} (h : numK s a = some (n, b)) : b ≤ s.length ∧ n ≤ 1099511627776 := by
  unfold numK at h
  split at h
  · rename_i hc
    obtain ⟨m, k, hg, hn, hk, hak, -⟩ := getV_ok hc.1
    have q1 : (getV s a).1 = (m : Int) := by rw [hg]
    have q2 : (getV s a).2.1 = ((a + k : Nat) : Int) := by rw [hg]
    rw [q1, q2] at h
    simp only [Int.toNat_natCast, Option.some.injEq, Prod.mk.injEq] at h
    have := hc.2
    omega
  · cases h
theorem bnum_spec {s : Str} {a : Nat} (hs : s.length ≤ 1000000) (ha : a ≤ s.length) : FX Tryz.prog 82 [sv s, .int .i64 (a : Int)] []
    (fun v h => ∃ n b, numK s a = some (n, b) ∧ v = .tuple ⟨[.int .i64 (n : Int), .int .i64 (b : Int)]⟩ ∧ h = []) (fun v h => numK s a = none ∧ v = errF ∧ h = []) := by
  refine FX.intro 26 [(0, sv s), (1, .int .i64 (a : Int))] Tryz.func82 rfl (enters Tryz.func82 (by kernel_rfl) rfl) Tryz.ntmps82 rfl rfl ?_
  refine WP.seq <| WP.region <| v0 (S0.assign rfl) rfl <| v0 (S0.assign rfl) rfl <| vE <| WP.seq <| WP.region <| v0 (S0.move rfl) rfl <| v0 (S0.move rfl) rfl <| ?_
  refine vcd (S1.callF rfl (get_spec hs (by omega)) take0) rfl ?_
  refine v0 (S0.move rfl) rfl <| v0 (S0.extract rfl rfl) rfl <| v0 (S0.extract rfl rfl) rfl <| v0 (S0.extract rfl rfl) rfl <| v0 (S0.assign rfl) rfl <| v0 (S0.assign rfl) rfl <| v0 (S0.assign rfl) rfl <| vE <| WP.seq <| WP.region <| v0 (S0.move rfl) rfl <| v0 (S0.cmp rfl rfl rfl) rfl <| v0 (S0.move rfl) rfl <| ?_
  first | refine csP (t := 18) rfl (fun h1 => ?_) (fun h1 => ?_) | refine csN (t := 18) rfl (fun h1 => ?_) (fun h1 => ?_) | refine cs (t := 18) rfl (fun h1 => ?_) (fun h1 => ?_)
  · obtain ⟨n, k, hg, hn, hk, hak, -⟩ := getV_ok h1
    have q1 : (getV s a).1 = (n : Int) := by rw [hg]
    have q2 : (getV s a).2.1 = ((a + k : Nat) : Int) := by rw [hg]
    have hd : numK s a = if (n : Int) ≤ 1099511627776 then some (n, a + k) else none := by
      unfold numK
      rw [q1, q2, Int.toNat_natCast, Int.toNat_natCast]
      by_cases h : (n : Int) ≤ 1099511627776
      · rw [if_pos ⟨h1, h⟩, if_pos h]
      · rw [if_neg (fun e => h e.2), if_neg h]
    rw [q1, q2]
    refine gT rfl <| v0 (S0.move rfl) rfl <| gT rfl <| v0 (S0.cmp rfl rfl rfl) rfl <| v0 (S0.pickT rfl rfl) rfl <| ?_
    refine vcX rfl (must_spec _) take0 rfl ?_ ?_
    · rintro _ _ ⟨hb, rfl, rfl⟩; exact ⟨rfl, _, rfl, by rw [hd, if_neg (by simpa using hb)], rfl, rfl⟩
    rintro _ _ ⟨hb, rfl, rfl⟩
    refine app ?_
    have hle : (n : Int) ≤ 1099511627776 := by simpa using hb
    refine vE <| WP.seq <| WP.region <| v0 (S0.move rfl) rfl <| v0 (S0.convI rfl (wrap_i64 (by omega))) rfl <| v0 (S0.move rfl) rfl <| v0 (S0.assign rfl) rfl <| v0 (S0.assign rfl) rfl <| vE <| WP.ret <| ?_
    refine r2 rfl rfl rfl ?_
    exact ⟨n, a + k, by rw [hd, if_pos hle], rfl, rfl⟩
  · have hd : numK s a = none := if_neg (fun e => h1 e.1)
    refine gF rfl rfl <| gF rfl rfl <| v0 (S0.pickF rfl rfl) rfl <| ?_
    refine vcX rfl (must_spec _) take0 rfl ?_ ?_
    · rintro _ _ ⟨hb, rfl, rfl⟩; exact ⟨rfl, _, rfl, hd, rfl, rfl⟩
    rintro _ _ ⟨hb, rfl, rfl⟩
    refine app ?_
    cases hb
theorem must_ok {b : Bool} (h : b = true) : FN Tryz.prog 84 [.bool b] [] (is (.tuple ⟨[]⟩) []) :=
  ((must_spec b).fn fun v h' q => by rw [h] at q; cases q.1).mono fun v h' q => ⟨q.2.1, q.2.2⟩
theorem bnum_ok {s : Str} {a n b : Nat} (hs : s.length ≤ 1000000) (ha : a ≤ s.length) (h : numK s a = some (n, b)) : FN Tryz.prog 82 [sv s, .int .i64 (a : Int)] [] (is (.tuple ⟨[.int .i64 (n : Int), .int .i64 (b : Int)]⟩) []) :=
  ((bnum_spec hs ha).fn fun v h' q => by rw [h] at q; cases q.1).mono fun v h' ⟨n', b', e, e2, e3⟩ => by
    rw [h] at e
    simp only [Option.some.injEq, Prod.mk.injEq] at e
    obtain ⟨rfl, rfl⟩ := e
    exact ⟨e2, e3⟩
theorem setMk_end {M : List MkT} {x : MkT} (h : ∀ z ∈ M, z.1 < x.1) : setMk M x = M ++ [x] := by
  unfold setMk
  have e1 : M.filter (fun z => decide (z.1 < x.1)) = M := List.filter_eq_self.2 fun z hz => by have := h z hz; simp [this]
  have e2 : M.filter (fun z => decide (x.1 < z.1)) = [] := List.filter_eq_nil_iff.2 fun z hz => by have := h z hz; simp; omega
  rw [e1, e2]
theorem ris_before {L : List MkT} (h : RisM L) {k : Nat} {x : MkT} (hx : L[k]? = some x) : ∀ z ∈ L.take k, z.1 < x.1 := by
  intro z hz
  obtain ⟨hk, rfl⟩ := List.getElem?_eq_some_iff.1 hx
  obtain ⟨j, hj, rfl⟩ := List.getElem_of_mem hz
  have hj2 : j < k := by rw [List.length_take] at hj; omega
  rw [List.getElem_take]
  exact List.pairwise_iff_getElem.1 h j k (by omega) hk hj2
theorem getE_ok {s : Str} {a : Nat} (ha : a ≤ s.length) (h : (getE s a).2.2 = 0) : rightE (getE s a).1 = true ∧ (getE s a).2.1 = ((getE s a).2.1.toNat : Int) ∧ (getE s a).2.1.toNat ≤ s.length := by
  have hle := numAt_le ha 3
  have hT := rdT_le (bad := (numAt s a 3).2) hle
  have hT2 := rdT_le (bad := (rdT s (numAt s a 3).1 (numAt s a 3).2).2.2) hT.1
  have hg : getE s a = if (rdT s (rdT s (numAt s a 3).1 (numAt s a 3).2).2.1 (rdT s (numAt s a 3).1 (numAt s a 3).2).2.2).2.2 ≠ 0 then (ev0, 0, (rdT s (rdT s (numAt s a 3).1 (numAt s a 3).2).2.1 (rdT s (numAt s a 3).1 (numAt s a 3).2).2.2).2.2) else if rightE ⟨numIs s a 0, numIs s a 1, (rdT s (numAt s a 3).1 (numAt s a 3).2).1, (rdT s (rdT s (numAt s a 3).1 (numAt s a 3).2).2.1 (rdT s (numAt s a 3).1 (numAt s a 3).2).2.2).1, numIs s a 2⟩ = false then (ev0, 0, 4) else (⟨numIs s a 0, numIs s a 1, (rdT s (numAt s a 3).1 (numAt s a 3).2).1, (rdT s (rdT s (numAt s a 3).1 (numAt s a 3).2).2.1 (rdT s (numAt s a 3).1 (numAt s a 3).2).2.2).1, numIs s a 2⟩, ((rdT s (rdT s (numAt s a 3).1 (numAt s a 3).2).2.1 (rdT s (numAt s a 3).1 (numAt s a 3).2).2.2).2.1 : Int), 0) := rfl
  generalize (rdT s (rdT s (numAt s a 3).1 (numAt s a 3).2).2.1 (rdT s (numAt s a 3).1 (numAt s a 3).2).2.2) = y at hg hT2
  rw [hg] at h ⊢
  split at h
  · rename_i hc; exact absurd h hc
  · rename_i hc
    rw [if_neg hc]
    split at h
    · cases h
    · rename_i hr
      rw [if_neg hr]
      exact ⟨by simpa using hr, by simp, by simpa using hT2.1⟩
theorem CtW.add {b : Ct} (h : CtW b) {e : Ev} (hw : whyK b e = 0) : CtW (addK b e) := by
  obtain ⟨h1, h2, h3, h4, h5⟩ := why_zero hw
  obtain ⟨m1, m2, m3⟩ := sortedM_iff.1 h.ms
  have hb := rightE_bd h1
  refine ⟨sortedM_iff.2 ⟨ris_set m1 _, fun z hz => ?_, ?_⟩, by simp [addK]; omega, fun x hx => ?_⟩
  · rcases set_mem hz with rfl | hz
    · exact ⟨hb.1.1, hb.1.2, hb.2.1.1, hb.2.1.2⟩
    · exact m2 z hz
  · show (setMk b.M (e.o, e.s)).length ≤ 32
    rw [set_len' m1]
    cases hm : mkO b.M e.o with
    | some n => exact m3
    | none =>
      rw [hm] at h5
      have := h5.resolve_left (by simp)
      simp only; omega
  · rcases List.mem_append.1 hx with hx | hx
    · have := h.ev x hx
      exact ⟨this.1, by show x.1 ≤ b.n + 1; omega⟩
    · simp at hx; subst hx; exact ⟨h1, Nat.le_refl _⟩
theorem CtW.age {b : Ct} (h : CtW b) (n : Int) : CtW (ageK b n) :=
  ⟨h.ms, Nat.le_trans (ageL_len _ _) h.len, fun x hx => by
    obtain ⟨y, hy, rfl, hp⟩ := ageL_mem hx
    exact ⟨age_right (h.ev y hy).1 hp, (h.ev y hy).2⟩⟩
end Go.Proofs.YtjpjebfodhbdfaaGreatDoor
namespace Go.Proofs.YtjpjebfodhbdfaaGreatDoor
open Go
theorem read_parts {s : Str} {B : Ct} (h : readK s = some B) : ∃ n a1 many a3, numK s 0 = some (n, a1) ∧ (cutM s a1).2.2 = 0 ∧ numK s (cutM s a1).2.1.toNat = some (many, a3) ∧ many ≤ 64 ∧ readL s (cutM s a1).1 n many [] 0 a3 = some (B.L, s.length) ∧ B.M = (cutM s a1).1 ∧ B.n = n := by
  unfold readK at h
  cases h1 : numK s 0 with
  | none => rw [h1] at h; cases h
  | some x =>
    obtain ⟨n, a1⟩ := x
    rw [h1] at h
    dsimp only at h
    split at h
    · rename_i h2
      unfold readE at h
      cases h3 : numK s (cutM s a1).2.1.toNat with
      | none => rw [h3] at h; cases h
      | some y =>
        obtain ⟨many, a3⟩ := y
        rw [h3] at h
        dsimp only at h
        split at h
        · rename_i h4
          cases h5 : readL s (cutM s a1).1 n many [] 0 a3 with
          | none => rw [h5] at h; cases h
          | some z =>
            obtain ⟨L, e⟩ := z
            rw [h5] at h
            dsimp only at h
            split at h
            · rename_i h6
              cases h
              subst h6
              exact ⟨n, a1, many, a3, rfl, h2, h3, h4, h5, rfl, rfl⟩
            · cases h
        · cases h
    · cases h
theorem bread_spec {bb lb : Nat} {cc : List Blk} (h : IsCt bb lb ct0 cc) {s : Str} (hs : s.length ≤ 900000) {B : Ct} (hB : readK s = some B) : FN Tryz.prog 39 [ptrB bb, sv s] [cc]
    (fun _ h => ∃ cc', CtW B ∧ B.n ≤ 1099511627776 ∧ IsCt bb lb B cc' ∧ h = [cc']) := by
  obtain ⟨v0, row0, m, A0, ck0, hs0, hA0, rfl⟩ := h
  obtain ⟨va0, cap0, rfl, -, -⟩ := IsSl.elems (k := 5) enN_len hs0
  obtain ⟨n, a1, many, a3, hn, hb0, hn2, hm64, hrd0, hBM, hBn⟩ := read_parts hB
  obtain ⟨ha1, hnm⟩ := numK_le hn
  obtain ⟨hp, hsort, hp3⟩ := cutM_le ha1 hb0
  obtain ⟨ha3, -⟩ := numK_le hn2
  refine FN.intro 129 [(0, ptrB bb), (1, sv s)] Tryz.func39 rfl (enters Tryz.func39 (by kernel_rfl) rfl) Tryz.ntmps39 rfl rfl ?_
  refine WP.perm (h' := [[bkB bb lb (.slice va0 (ct0.L).length cap0) m ((0 : Nat) : Int)], [(m, mapO (Value.int .i64) A0 ck0)], row0]) (k := []) (pm fun a_ => by (try simp only [List.flatten_append, List.flatten_cons, List.flatten_nil, List.append_nil, List.cons_append, List.nil_append, List.append_assoc, nOf_app, nOf_cons, nOf_nil, Nat.add_zero, Nat.zero_add, List.map_append, List.map_cons, List.map_nil, cel, sv]); first | done | omega) ?_
  refine WP.seq <| WP.region <| v0 (S0.move rfl) rfl <| ?_
  refine vcd (S1.callF rfl (bnum_ok (s := s) (a := 0) (by omega) (Nat.zero_le _) hn) take0) rfl ?_
  refine v0 (S0.move rfl) rfl <| v0 (S0.extract rfl rfl) rfl <| v0 (S0.extract rfl rfl) rfl <| v0 (S0.assign rfl) rfl <| v0 (S0.assign rfl) rfl <| vE <| WP.seq <| WP.region <| v0 (S0.move rfl) rfl <| v0 (S0.move rfl) rfl <| v0 (S0.nilCheck rfl) rfl <| v0 (S0.fieldAddr rfl) rfl <| vs (S1.store rfl rfl (by first | rfl | exact IsSl.cv (by assumption))) <| vE <| WP.seq <| WP.region <| v0 (S0.move rfl) rfl <| v0 (S0.move rfl) rfl <| ?_
  refine vc (S1.callF rfl (mcut_spec (s := s) (a := a1) (by omega) ha1) take0) rfl ?_
  rintro _ _ ⟨mv, mrow, rfl, hsM, rfl⟩
  refine app ?_
  rw [hp3]
  generalize (cutM s a1).1 = M at hsM hsort hrd0 hBM
  generalize (cutM s a1).2.1.toNat = a2 at hp hp3 hn2
  obtain ⟨hris, hmb, hlM⟩ := sortedM_iff.1 hsort
  obtain ⟨ma, mcap, rfl, hmcap, hmrow⟩ := IsSl.elems (k := 1) enM_len hsM
  refine v0 (S0.move rfl) rfl <| v0 (S0.extract rfl rfl) rfl <| v0 (S0.extract rfl rfl) rfl <| v0 (S0.extract rfl rfl) rfl <| v0 (S0.assign rfl) rfl <| v0 (S0.assign rfl) rfl <| v0 (S0.assign rfl) rfl <| vE <| WP.seq <| WP.region <| v0 (S0.move rfl) rfl <| v0 (S0.cmp rfl rfl rfl) rfl <| ?_
  refine vcd (S1.callF rfl (must_ok (by simpa using hb0)) take0) rfl ?_
  refine vE <| WP.seq <| WP.seq <| WP.region <| v0 (S0.move rfl) rfl <| v0 (S0.lenSl rfl) rfl <| v0 (S0.move rfl) rfl <| vE <| WP.block <| ?_
  refine WP.loop (fun st : Nat × ML Int × Nat => st.1 ≤ M.length ∧ MkA st.2.1 st.2.2 (M.take st.1)) (fun st : Nat × ML Int × Nat => [(0, ptrB bb), (1, sv s), (5, .int .i64 (a2 : Int)), (36, .slice ma M.length mcap), (37, .int .i64 (M.length : Int)), (38, .int .i64 (st.1 : Int))]) (fun st : Nat × ML Int × Nat => [[bkB bb lb (.slice va0 (ct0.L).length cap0) m (n : Int)], [(m, mapO (Value.int .i64) st.2.1 st.2.2)], row0, mrow]) (fun st : Nat × ML Int × Nat => M.length - st.1) ((0, A0, ck0)) (⟨Nat.zero_le _, hA0⟩) ⟨rfl, rfl, rfl, rfl, rfl, rfl, trivial⟩ ⟨[], (pm fun a_ => by (try simp only [List.flatten_append, List.flatten_cons, List.flatten_nil, List.append_nil, List.cons_append, List.nil_append, List.append_assoc, nOf_app, nOf_cons, nOf_nil, Nat.add_zero, Nat.zero_add, List.map_append, List.map_cons, List.map_nil, cel, sv, bkB]); first | done | omega)⟩ (fun st hinv => ?_)
  obtain ⟨k, A, ck⟩ := st
  obtain ⟨hk, hA⟩ := hinv
  dsimp only at hk hA ⊢
  refine WP.seq <| WP.region <| v0 (S0.cmp rfl rfl rfl) rfl <| vE <| WP.seq <| ?_
  first | refine WP.condP rfl (fun h1 => ?_) (fun h1 => ?_) | refine WP.condN rfl (fun h1 => ?_) (fun h1 => ?_) | refine WP.cond rfl (fun h1 => ?_) (fun h1 => ?_)
  · have hlt : k < M.length := by omega
    rcases hmrow with ⟨rfl, -⟩ | ⟨b1, sp1, rfl, rfl, hsp1⟩
    · simp at hlt
    have hx : M[k]? = some M[k] := by simp [hlt]
    generalize M[k] = x at hx
    have hA2 := hA.put x
    rw [setMk_end (ris_before hris hx), show M.take k ++ [x] = M.take (k + 1) by rw [List.take_add_one, hx]; rfl] at hA2
    refine WP.skip <| WP.seq <| WP.block <| WP.seq <| WP.region <| ?_
    refine v0 (S0.indexN (k := 2) rfl rfl hlt) rfl <| ?_
    refine v0 (S0.loadA rfl (flat_take enM_len sp1 M k x hx) rfl) rfl <| ?_
    refine vn (S1.alloc) rfl fun b9 => vs (S1.storeA rfl rfl rfl) <| vE <| WP.drawP [(0, none), (1, none), (2, none), (3, none), (4, none), (5, none), (6, none), (7, none), (8, none)] mixed (by kernel_rfl) (by kernel_rfl) (by kernel_rfl) (take1 at0 (take1 at0 take0)) <| w0 rfl rfl rfl (S0.move rfl) rfl <| w0 rfl rfl rfl (S0.nilCheck rfl) rfl <| w0 rfl rfl rfl (S0.fieldAddr rfl) rfl <| w0 rfl rfl rfl (S0.load rfl rfl) rfl <| w0 rfl rfl rfl (S0.fieldAddr rfl) rfl <| w0 rfl rfl rfl (S0.load rfl rfl) rfl <| w0 rfl rfl rfl (S0.fieldAddr rfl) rfl <| w0 rfl rfl rfl (S0.load rfl rfl) rfl <| ?_
    refine ws rfl rfl rfl rfl (S1.mapUpdate (ek := Value.int .i64) (k := x.1) rfl rfl rfl) <| ?_
    refine wE <| WP.region <| v0 (S0.ari rfl rfl rfl (wrap_i64 (by omega))) rfl <| v0 (S0.move rfl) rfl <| vE <| ?_
    exact ⟨(k + 1, putM A ck x.1 (.int .i64 x.2), clkM A ck x.1), (by first | exact ⟨hlt, hA2⟩ | (dsimp only; exact ⟨hlt, hA2⟩)), (show M.length - (k + 1) < M.length - k by omega), ⟨⟨rfl, rfl, rfl, rfl, rfl, rfl, trivial⟩, rfl, rfl⟩, ⟨_, (take1 (atS at0) (take1 (atS at0) (take1 (atS at0) (take1 (atS at0) take0))))⟩⟩
  · have e : k = M.length := by omega
    rw [e, List.take_length] at hA
    have hMs := hA.ms
    clear hA0 h1 hk
    refine WP.exit <| WP.seq <| WP.region <| v0 (S0.move rfl) rfl <| v0 (S0.move rfl) rfl <| ?_
    refine vcd (S1.callF rfl (bnum_ok (s := s) (a := a2) (by omega) hp hn2) take0) rfl ?_
    refine v0 (S0.move rfl) rfl <| v0 (S0.extract rfl rfl) rfl <| v0 (S0.extract rfl rfl) rfl <| v0 (S0.assign rfl) rfl <| v0 (S0.assign rfl) rfl <| vE <| WP.seq <| WP.region <| v0 (S0.move rfl) rfl <| v0 (S0.cmp rfl rfl rfl) rfl <| ?_
    refine vcd (S1.callF rfl (must_ok (by simp; omega)) take0) rfl ?_
    refine vE <| WP.seq <| WP.region <| v0 (S0.assign rfl) rfl <| vE <| WP.seq <| WP.seq <| WP.region <| v0 (S0.move rfl) rfl <| v0 (S0.move rfl) rfl <| vE <| WP.block <| ?_
    refine WP.loop (fun st : Nat × List (Nat × Ev) × Nat × Nat × Value × List Blk => st.1 ≤ many ∧ st.2.1.length = st.1 ∧ (∀ x ∈ st.2.1, rightE x.2 = true ∧ x.1 ≤ n) ∧ st.2.2.2.1 ≤ s.length ∧ some (B.L, s.length) = readL s M n (many - st.1) st.2.1 st.2.2.1 st.2.2.2.1 ∧ IsSl 102 6 st.2.2.2.2.1 (st.2.1.flatMap enN) st.2.2.2.2.2) (fun st : Nat × List (Nat × Ev) × Nat × Nat × Value × List Blk => [(0, ptrB bb), (1, sv s), (5, .int .i64 (st.2.2.2.1 : Int)), (11, .int .i64 (st.2.2.1 : Int)), (60, .int .i64 (many : Int)), (61, .int .i64 (st.1 : Int))]) (fun st : Nat × List (Nat × Ev) × Nat × Nat × Value × List Blk => [[bkB bb lb st.2.2.2.2.1 m (n : Int)], [(m, mapO (Value.int .i64) A ck)], st.2.2.2.2.2]) (fun st : Nat × List (Nat × Ev) × Nat × Nat × Value × List Blk => many - st.1) ((0, [], 0, a3, .slice va0 (ct0.L).length cap0, row0)) (⟨Nat.zero_le _, rfl, by simp, ha3, hrd0.symm, hs0⟩) ⟨rfl, rfl, rfl, rfl, rfl, rfl, trivial⟩ ⟨_, (take1 at0 (take1 at0 (take1 at0 take0)))⟩ (fun st hinv => ?_)
    obtain ⟨j, L, last, at_, v, row⟩ := st
    obtain ⟨hj, hL, hev, hat, hrd, hsl⟩ := hinv
    dsimp only at hj hL hev hat hrd hsl ⊢
    obtain ⟨va, cap, rfl, -, -⟩ := IsSl.elems (k := 5) enN_len hsl
    have hfl : (L.flatMap enN).length = L.length * 6 := flat_len enN_len _
    refine WP.seq <| WP.region <| v0 (S0.cmp rfl rfl rfl) rfl <| vE <| WP.seq <| ?_
    first | refine WP.condP rfl (fun h2 => ?_) (fun h2 => ?_) | refine WP.condN rfl (fun h2 => ?_) (fun h2 => ?_) | refine WP.cond rfl (fun h2 => ?_) (fun h2 => ?_)
    · have hlt : j < many := by omega
      rw [show many - j = (many - (j + 1)) + 1 by omega, readL] at hrd
      cases hn3 : numK s at_ with
      | none => rw [hn3] at hrd; cases hrd
      | some y =>
        obtain ⟨p, to⟩ := y
        obtain ⟨hto, hpm⟩ := numK_le hn3
        rw [hn3] at hrd
        dsimp only at hrd
        have hq : (getE s to).2.2 = 0 ∧ last < p ∧ p ≤ n ∧ 0 < (getE s to).1.e ∧ (getE s to).1.s ≤ (mkO M (getE s to).1.o).getD 0 := by
          split at hrd
          · assumption
          · cases hrd
        rw [if_pos hq] at hrd
        obtain ⟨q1, q2, q3, q4, q5⟩ := hq
        obtain ⟨g1, g2, g3⟩ := getE_ok hto q1
        have hev2 : ∀ x ∈ L ++ [(p, (getE s to).1)], rightE x.2 = true ∧ x.1 ≤ n := fun x hx => by
          rcases List.mem_append.1 hx with hx | hx
          · exact hev x hx
          · simp at hx; subst hx; exact ⟨g1, q3⟩
        have hspec := eget_spec (s := s) (a := to) hs hto
        rw [q1, g2] at hspec
        generalize (getE s to).2.1.toNat = en at hrd g3 hspec
        generalize (getE s to).1 = ev at hrd q4 q5 g1 hev2 hspec
        refine WP.skip <| WP.seq <| WP.block <| WP.seq <| WP.region <| v0 (S0.move rfl) rfl <| v0 (S0.move rfl) rfl <| ?_
        refine vcd (S1.callF rfl (bnum_ok (s := s) (a := at_) (by omega) hat hn3) take0) rfl ?_
        refine v0 (S0.move rfl) rfl <| v0 (S0.extract rfl rfl) rfl <| v0 (S0.extract rfl rfl) rfl <| v0 (S0.assign rfl) rfl <| v0 (S0.assign rfl) rfl <| vE <| WP.seq <| WP.region <| v0 (S0.move rfl) rfl <| v0 (S0.move rfl) rfl <| ?_
        refine vcd (S1.callF rfl (hspec) take0) rfl ?_
        refine v0 (S0.move rfl) rfl <| v0 (S0.extract rfl rfl) rfl <| v0 (S0.extract rfl rfl) rfl <| v0 (S0.extract rfl rfl) rfl <| vn (S1.alloc) rfl fun b14 => vs (S1.storeA rfl rfl rfl) <| v0 (S0.assign rfl) rfl <| v0 (S0.assign rfl) rfl <| vE <| WP.seq <| WP.drawP [(0, none), (1, none), (2, none), (3, none), (4, none), (5, none), (6, none), (7, none), (8, none), (9, none), (10, none), (11, none), (12, none), (13, none), (14, none), (15, none), (16, none), (17, none), (18, none), (19, none), (20, none), (21, none), (22, none), (23, none), (24, none), (25, none), (26, none), (27, none), (28, none), (29, none), (30, none), (31, none), (32, none)] mixed (by kernel_rfl) (by kernel_rfl) (by kernel_rfl) (take1 at0 (take1 at0 (take1 at0 take0))) <| w0 rfl rfl rfl (S0.move rfl) rfl <| w0 rfl rfl rfl (S0.cmp rfl rfl rfl) rfl <| w0 rfl rfl rfl (S0.move rfl) rfl <| ?_
        refine wcsTh (t := 78) rfl (rfl) ?_
        refine w0 rfl rfl rfl (S0.move rfl) rfl <| w0 rfl rfl rfl (S0.move rfl) rfl <| w0 rfl rfl rfl (S0.cmp rfl rfl rfl) rfl <| w0 rfl rfl rfl (S0.pickT rfl rfl) rfl <| w0 rfl rfl rfl (S0.move rfl) rfl <| ?_
        refine wcsTh (t := 83) rfl ((by simp; omega)) ?_
        refine w0 rfl rfl rfl (S0.move rfl) rfl <| w0 rfl rfl rfl (S0.move rfl) rfl <| w0 rfl rfl rfl (S0.nilCheck rfl) rfl <| w0 rfl rfl rfl (S0.fieldAddr rfl) rfl <| w0 rfl rfl rfl (S0.load rfl rfl) rfl <| w0 rfl rfl rfl (S0.cmp rfl rfl rfl) rfl <| w0 rfl rfl rfl (S0.pickT rfl rfl) rfl <| w0 rfl rfl rfl (S0.move rfl) rfl <| ?_
        refine wcsTh (t := 91) rfl ((by simp; omega)) ?_
        refine w0 rfl rfl rfl (S0.fieldAddr rfl) rfl <| w0 rfl rfl rfl (S0.load rfl rfl) rfl <| w0 rfl rfl rfl (S0.cmp rfl rfl rfl) rfl <| w0 rfl rfl rfl (S0.pickT rfl rfl) rfl <| w0 rfl rfl rfl (S0.move rfl) rfl <| ?_
        refine wcsTh (t := 96) rfl ((by simp; omega)) ?_
        refine w0 rfl rfl rfl (S0.fieldAddr rfl) rfl <| w0 rfl rfl rfl (S0.load rfl rfl) rfl <| w0 rfl rfl rfl (S0.move rfl) rfl <| w0 rfl rfl rfl (S0.nilCheck rfl) rfl <| w0 rfl rfl rfl (S0.fieldAddr rfl) rfl <| w0 rfl rfl rfl (S0.load rfl rfl) rfl <| w0 rfl rfl rfl (S0.fieldAddr rfl) rfl <| w0 rfl rfl rfl (S0.load rfl rfl) rfl <| ?_
        refine w0 rfl rfl rfl (S0.lookupV (ek := Value.int .i64) (k := ev.o) (v := .int .i64 ((mkO M ev.o).getD 0)) rfl rfl (by rw [hMs, mk_getD])) rfl <| ?_
        refine w0 rfl rfl rfl (S0.cmp rfl rfl rfl) rfl <| w0 rfl rfl rfl (S0.pickT rfl rfl) rfl <| ?_
        refine wcd rfl rfl rfl rfl (S1.callF rfl (must_ok (by simpa using q5)) take0) rfl ?_
        refine wE <| WP.seq <| WP.drawP [(0, none), (1, none), (2, none), (3, none), (4, none), (5, none), (6, none), (7, none), (8, none), (9, none), (10, none), (11, none), (12, none)] mixed (by kernel_rfl) (by kernel_rfl) (by kernel_rfl) (take1 at0 (take1 at0 (take1 at0 take0))) <| w0 rfl rfl rfl (S0.move rfl) rfl <| w0 rfl rfl rfl (S0.move rfl) rfl <| w0 rfl rfl rfl (S0.nilCheck rfl) rfl <| w0 rfl rfl rfl (S0.fieldAddr rfl) rfl <| w0 rfl rfl rfl (S0.load rfl rfl) rfl <| w0 rfl rfl rfl (S0.move rfl) rfl <| w0 rfl rfl rfl (S0.loadAL rfl) rfl <| w0 rfl rfl rfl (S0.build rfl (qs := [(0, _), (1, _)]) rfl) rfl <| wnv rfl rfl rfl rfl (S1.buildSlice rfl (qs := [(0, _)]) rfl rfl) rfl fun b117 => ?_
        refine we rfl rfl rfl rfl (S1.appendL rfl hsl rfl rfl (atS at0) rfl rfl (by rw [hfl]; simp; omega)) rfl ?_
        rintro v2 _ ⟨row2, hs2, rfl⟩
        refine w0 rfl rfl rfl (S0.nilCheck rfl) rfl <| w0 rfl rfl rfl (S0.fieldAddr rfl) rfl <| ?_
        refine wlast rfl (by kernel_rfl) rfl rfl (S1.store rfl rfl hs2.cv) ?_
        refine WP.region <| v0 (S0.move rfl) rfl <| v0 (S0.move rfl) rfl <| v0 (S0.assign rfl) rfl <| v0 (S0.assign rfl) rfl <| vE <| WP.region <| v0 (S0.ari rfl rfl rfl (wrap_i64 (by omega))) rfl <| v0 (S0.move rfl) rfl <| vE <| ?_
        exact ⟨(j + 1, L ++ [(p, ev)], p, en, v2, row2), (by first | exact ⟨hlt, by simp; omega, hev2, g3, hrd, by rw [List.flatMap_append]; exact hs2⟩ | (dsimp only; exact ⟨hlt, by simp; omega, hev2, g3, hrd, by rw [List.flatMap_append]; exact hs2⟩)), (show many - (j + 1) < many - j by omega), ⟨⟨rfl, rfl, rfl, rfl, rfl, rfl, trivial⟩, rfl, rfl⟩, ⟨_, (take1 (atS at0) (take1 (atS at0) (take1 (atS at0) take0)))⟩⟩
    · have hjm : j = many := by omega
      rw [hjm, Nat.sub_self, readL] at hrd
      simp only [Option.some.injEq, Prod.mk.injEq] at hrd
      obtain ⟨rfl, rfl⟩ := hrd
      refine WP.exit <| WP.region <| v0 (S0.move rfl) rfl <| v0 (S0.move rfl) rfl <| v0 (S0.lenSt rfl) rfl <| v0 (S0.cmp rfl rfl rfl) rfl <| ?_
      refine vcd (S1.callF rfl (must_ok (by simp)) take0) rfl ?_
      refine vE <| ?_
      refine Leaves.drop (h' := [bkB bb lb (.slice va B.L.length cap) m (n : Int) :: (m, mapO (Value.int .i64) A ck) :: row]) (k := []) (pm fun a_ => by (try simp only [List.flatten_append, List.flatten_cons, List.flatten_nil, List.append_nil, List.cons_append, List.nil_append, List.append_assoc, nOf_app, nOf_cons, nOf_nil, Nat.add_zero, Nat.zero_add, List.map_append, List.map_cons, List.map_nil, cel, sv]); first | done | omega) ?_
      refine r0 rfl ?_
      refine ⟨_, ⟨by rw [hBM]; exact hsort, by omega, by rw [hBn]; exact hev⟩, by omega, ⟨_, row, m, A, ck, hsl, by rw [hBM]; exact hA, by rw [hBn]⟩, rfl⟩
theorem bredo_spec {bb lb : Nat} {b : Ct} {cc : List Blk} (h : IsCt bb lb b cc) (ho : CtW b) (hn : b.n ≤ 4000000000000) {s : Str} (hs : s.length ≤ 900000) : FX Tryz.prog 41 [ptrB bb, sv s] [cc]
    (fun _ h => ∃ b' cc', redoK b s = some b' ∧ CtW b' ∧ b'.n ≤ b.n + 1 ∧ IsCt bb lb b' cc' ∧ h = [cc']) (fun v _ => redoK b s = none ∧ v = errF) := by
  refine FX.intro 64 [(0, ptrB bb), (1, sv s)] Tryz.func41 rfl (enters Tryz.func41 (by kernel_rfl) rfl) Tryz.ntmps41 rfl rfl ?_
  refine WP.seq <| WP.region <| v0 (S0.move rfl) rfl <| v0 (S0.cmpS rfl rfl rfl) rfl <| ?_
  refine vcX rfl (must_spec _) take0 rfl ?_ ?_
  · rintro _ _ ⟨hb, rfl, rfl⟩; exact ⟨rfl, _, rfl, by have e : s = [] := (by simpa using hb); rw [e]; rfl, rfl⟩
  rintro _ _ ⟨hb, rfl, rfl⟩
  refine app ?_
  cases s with
  | nil => simp at hb
  | cons c s =>
    clear hb
    have er : redoK b (c :: s) = if c = 80 then (if (getE (c :: s) 1).2.2 = 0 ∧ (getE (c :: s) 1).2.1 = ((c :: s).length : Int) ∧ whyK b (getE (c :: s) 1).1 = 0 then some (addK b (getE (c :: s) 1).1) else none) else if c = 84 then (match numK (c :: s) 1 with | none => none | some (n, to) => if to = (c :: s).length ∧ 1 ≤ n ∧ n ≤ 1000 then some (ageK b (n : Int)) else none) else none := rfl
    have hc80 : ((c.toNat : Int) = 80) ↔ c = 80 := by
      constructor
      · intro e; apply UInt8.toNat_inj.1; show c.toNat = 80; omega
      · rintro rfl; rfl
    have hc84 : ((c.toNat : Int) = 84) ↔ c = 84 := by
      constructor
      · intro e; apply UInt8.toNat_inj.1; show c.toNat = 84; omega
      · rintro rfl; rfl
    have h1s : 1 ≤ (c :: s).length := by simp
    generalize hS : c :: s = S at er hs h1s
    have hx0 : S[0]? = some c := by rw [← hS]; rfl
    clear hS
    refine vE <| WP.seq <| WP.region <| v0 (S0.move rfl) rfl <| ?_
    refine v0 (S0.indexSt (i := 0) rfl rfl hx0) rfl <| ?_
    refine vE <| WP.block <| WP.seq <| WP.region <| v0 (S0.cmp rfl rfl rfl) rfl <| v0 (S0.assign rfl) rfl <| vE <| ?_
    first | refine WP.condP rfl (fun h1 => ?_) (fun h1 => ?_) | refine WP.condN rfl (fun h1 => ?_) (fun h1 => ?_) | refine WP.cond rfl (fun h1 => ?_) (fun h1 => ?_)
    · rw [if_pos (hc80.1 h1)] at er
      have hspec := eget_spec (s := S) (a := 1) hs h1s
      have hok := getE_ok (s := S) (a := 1) h1s
      generalize getE S 1 = G at er hspec hok
      obtain ⟨ev, en, ee⟩ := G
      dsimp only at er hspec hok
      refine WP.seq <| WP.region <| v0 (S0.move rfl) rfl <| ?_
      refine vcd (S1.callF rfl (hspec) take0) rfl ?_
      refine v0 (S0.move rfl) rfl <| v0 (S0.extract rfl rfl) rfl <| v0 (S0.extract rfl rfl) rfl <| v0 (S0.extract rfl rfl) rfl <| vn (S1.alloc) rfl fun b4 => vs (S1.storeA rfl rfl rfl) <| v0 (S0.assign rfl) rfl <| v0 (S0.assign rfl) rfl <| vE <| WP.seq <| WP.region <| v0 (S0.move rfl) rfl <| v0 (S0.cmp rfl rfl rfl) rfl <| v0 (S0.move rfl) rfl <| ?_
      first | refine csP (t := 25) rfl (fun h2 => ?_) (fun h2 => ?_) | refine csN (t := 25) rfl (fun h2 => ?_) (fun h2 => ?_) | refine cs (t := 25) rfl (fun h2 => ?_) (fun h2 => ?_)
      · have h20 : ee = 0 := by simpa using h2
        obtain ⟨g1, g2, g3⟩ := hok h20
        obtain ⟨t1, t2⟩ := right_tl g1
        refine gT rfl <| v0 (S0.move rfl) rfl <| gT rfl <| v0 (S0.move rfl) rfl <| gT rfl <| v0 (S0.lenSt rfl) rfl <| gT rfl <| v0 (S0.cmp rfl rfl rfl) rfl <| v0 (S0.pickT rfl rfl) rfl <| v0 (S0.move rfl) rfl <| ?_
        first | refine csP (t := 31) rfl (fun h3 => ?_) (fun h3 => ?_) | refine csN (t := 31) rfl (fun h3 => ?_) (fun h3 => ?_) | refine cs (t := 31) rfl (fun h3 => ?_) (fun h3 => ?_)
        · refine gT rfl <| v0 (S0.move rfl) rfl <| gT rfl <| v0 (S0.loadAL rfl) rfl <| ?_
          refine gT rfl <| vcd (S1.callF rfl (bwhy_spec h ho (e := ev) (by omega)) (take1 (atS at0) take0)) rfl ?_
          refine gT rfl <| v0 (S0.cmp rfl rfl rfl) rfl <| v0 (S0.pickT rfl rfl) rfl <| ?_
          refine vcX rfl (must_spec _) take0 rfl ?_ ?_
          · rintro _ _ ⟨hb, rfl, rfl⟩; exact ⟨rfl, _, rfl, by rw [er, if_neg (fun q => by rw [q.2.2] at hb; cases hb)], rfl⟩
          rintro _ _ ⟨hb, rfl, rfl⟩
          refine app ?_
          have hw : whyK b ev = 0 := by simpa using hb
          rw [if_pos ⟨h20, by omega, hw⟩] at er
          refine vE <| WP.region <| v0 (S0.move rfl) rfl <| v0 (S0.loadAL rfl) rfl <| ?_
          refine vc (S1.callF rfl (badd_spec h ho hn ev) (take1 at0 take0)) rfl ?_
          rintro _ _ ⟨cc2, hc2, rfl⟩
          refine app ?_
          refine vE <| ?_
          refine Leaves.drop (take1 at0 take0) ?_
          refine r0 rfl ?_
          exact ⟨_, cc2, er, ho.add hw, Nat.le_refl _, hc2, rfl⟩
        · refine gF rfl rfl <| gF rfl rfl <| gF rfl rfl <| gF rfl rfl <| v0 (S0.pickF rfl rfl) rfl <| ?_
          refine vcX rfl (must_spec _) take0 rfl ?_ ?_
          · rintro _ _ ⟨hb, rfl, rfl⟩; exact ⟨rfl, _, rfl, by rw [er, if_neg (fun q => h3 (by rw [q.2.1]))], rfl⟩
          rintro _ _ ⟨hb, rfl, rfl⟩
          refine app ?_
          cases hb
      · refine gF rfl rfl <| gF rfl rfl <| gF rfl rfl <| gF rfl rfl <| v0 (S0.pickF rfl rfl) rfl <| v0 (S0.move rfl) rfl <| gF rfl rfl <| gF rfl rfl <| gF rfl rfl <| gF rfl rfl <| v0 (S0.pickF rfl rfl) rfl <| ?_
        refine vcX rfl (must_spec _) take0 rfl ?_ ?_
        · rintro _ _ ⟨hb, rfl, rfl⟩; exact ⟨rfl, _, rfl, by rw [er, if_neg (fun q => h2 (by rw [q.1]))], rfl⟩
        rintro _ _ ⟨hb, rfl, rfl⟩
        refine app ?_
        cases hb
    · rw [if_neg (fun q => h1 (hc80.2 q))] at er
      refine WP.seq <| WP.region <| v0 (S0.cmp rfl rfl rfl) rfl <| v0 (S0.assign rfl) rfl <| vE <| ?_
      first | refine WP.condP rfl (fun h2 => ?_) (fun h2 => ?_) | refine WP.condN rfl (fun h2 => ?_) (fun h2 => ?_) | refine WP.cond rfl (fun h2 => ?_) (fun h2 => ?_)
      · rw [if_pos (hc84.1 h2)] at er
        refine WP.seq <| WP.region <| v0 (S0.move rfl) rfl <| ?_
        refine vcX rfl (bnum_spec (s := S) (a := 1) (by omega) h1s) take0 rfl ?_ ?_
        · rintro _ _ ⟨hn2, rfl, rfl⟩; exact ⟨rfl, _, rfl, by rw [er, hn2], rfl⟩
        rintro _ _ ⟨n, to, hn2, rfl, rfl⟩
        refine app ?_
        rw [hn2] at er
        dsimp only at er
        refine v0 (S0.move rfl) rfl <| v0 (S0.extract rfl rfl) rfl <| v0 (S0.extract rfl rfl) rfl <| v0 (S0.assign rfl) rfl <| v0 (S0.assign rfl) rfl <| vE <| WP.seq <| WP.region <| v0 (S0.move rfl) rfl <| v0 (S0.move rfl) rfl <| v0 (S0.lenSt rfl) rfl <| v0 (S0.cmp rfl rfl rfl) rfl <| v0 (S0.move rfl) rfl <| ?_
        first | refine csP (t := 52) rfl (fun h3 => ?_) (fun h3 => ?_) | refine csN (t := 52) rfl (fun h3 => ?_) (fun h3 => ?_) | refine cs (t := 52) rfl (fun h3 => ?_) (fun h3 => ?_)
        · refine gT rfl <| v0 (S0.move rfl) rfl <| gT rfl <| v0 (S0.cmp rfl rfl rfl) rfl <| v0 (S0.pickT rfl rfl) rfl <| v0 (S0.move rfl) rfl <| ?_
          first | refine csP (t := 56) rfl (fun h4 => ?_) (fun h4 => ?_) | refine csN (t := 56) rfl (fun h4 => ?_) (fun h4 => ?_) | refine cs (t := 56) rfl (fun h4 => ?_) (fun h4 => ?_)
          · refine gT rfl <| v0 (S0.move rfl) rfl <| gT rfl <| v0 (S0.cmp rfl rfl rfl) rfl <| v0 (S0.pickT rfl rfl) rfl <| ?_
            refine vcX rfl (must_spec _) take0 rfl ?_ ?_
            · rintro _ _ ⟨hb, rfl, rfl⟩; exact ⟨rfl, _, rfl, by rw [er, if_neg (fun q => by simp at hb; omega)], rfl⟩
            rintro _ _ ⟨hb, rfl, rfl⟩
            refine app ?_
            have hn1000 : n ≤ 1000 := by simp at hb; omega
            rw [if_pos ⟨by omega, by omega, hn1000⟩] at er
            refine vE <| WP.region <| v0 (S0.move rfl) rfl <| v0 (S0.move rfl) rfl <| ?_
            refine vc (S1.callF rfl (bage_spec h ho (n := (n : Int)) (by omega)) (take1 at0 take0)) rfl ?_
            rintro _ _ ⟨cc2, hc2, rfl⟩
            refine app ?_
            refine vE <| ?_
            refine r0 rfl ?_
            exact ⟨_, cc2, er, ho.age _, Nat.le_succ _, hc2, rfl⟩
          · refine gF rfl rfl <| gF rfl rfl <| v0 (S0.pickF rfl rfl) rfl <| ?_
            refine vcX rfl (must_spec _) take0 rfl ?_ ?_
            · rintro _ _ ⟨hb, rfl, rfl⟩; exact ⟨rfl, _, rfl, by rw [er, if_neg (fun q => by omega)], rfl⟩
            rintro _ _ ⟨hb, rfl, rfl⟩
            refine app ?_
            cases hb
        · refine gF rfl rfl <| gF rfl rfl <| v0 (S0.pickF rfl rfl) rfl <| v0 (S0.move rfl) rfl <| gF rfl rfl <| gF rfl rfl <| v0 (S0.pickF rfl rfl) rfl <| ?_
          refine vcX rfl (must_spec _) take0 rfl ?_ ?_
          · rintro _ _ ⟨hb, rfl, rfl⟩; exact ⟨rfl, _, rfl, by rw [er, if_neg (fun q => by omega)], rfl⟩
          rintro _ _ ⟨hb, rfl, rfl⟩
          refine app ?_
          cases hb
      · rw [if_neg (fun q => h2 (hc84.2 q))] at er
        refine WP.region <| ?_
        refine vcX rfl (must_spec _) take0 rfl ?_ ?_
        · rintro _ _ ⟨hb, rfl, rfl⟩; exact ⟨rfl, _, rfl, er, rfl⟩
        rintro _ _ ⟨hb, rfl, rfl⟩
        refine app ?_
        cases hb
end Go.Proofs.YtjpjebfodhbdfaaGreatDoor
namespace Go.Proofs.YtjpjebfodhbdfaaGreatDoor
open Go
section
variable {P : Program} {f : Fr} {d : Option Tmp} {ty : TypeId} {p : String} {af : Array Edge} {gd : Option (Nat × Bool)}
theorem run_equalInI0 {T : TypeId} {ms} (hu : P.underlying T = some (.interface ms)) (n : Nat) (w : World) : (Op.equalIn (n + 1) T .nilIface .nilIface).run P w = .ok true w := by
  simp only [Op.equalIn, Sem.run_bind, run_underlying hu, Result.andThen_ok, Sem.run_pure]
theorem run_equalInI1 {T : TypeId} {ms} (hu : P.underlying T = some (.interface ms)) (t : TypeId) (u : Value) (n : Nat) (w : World) : (Op.equalIn (n + 1) T (.iface t u) .nilIface).run P w = .ok false w := by
  simp only [Op.equalIn, Sem.run_bind, run_underlying hu, Result.andThen_ok, Sem.run_pure]
theorem S0.neqNilI {T U : TypeId} {SL : List Blk} {x : Operand} {v : Value} {q : Bool} {ms} (hu : P.underlying T = some (.interface ms)) (hx : ev f x = some v) (hv : (v = .nilIface ∧ q = false) ∨ (∃ t u, v = .iface t u) ∧ q = true) : S0 P f SL ⟨d, .binOp .neq T x (.const .nilIface) U, ty, p, af, gd⟩ (.bool q) :=
  S0.pure (by intro c; simp) (by intro c; simp) fun ρ w k' => by
    have hy : ρ (.const .nilIface) = .nilIface := k' (.const .nilIface) .nilIface rfl
    rcases hv with ⟨rfl, rfl⟩ | ⟨⟨t, u, rfl⟩, rfl⟩
    · have e1 : (Op.equal T .nilIface .nilIface).run P w = .ok true w := run_equalInI0 hu 9999 w
      simp [execOp, k' _ _ hx, hy, eqGuard, binOp, e1]
    · have e1 : (Op.equal T (.iface t u) .nilIface).run P w = .ok false w := run_equalInI1 hu t u 9999 w
      simp [execOp, k' _ _ hx, hy, eqGuard, binOp, e1]
end
abbrev out2 (b2 b3 : Nat) (v : Value) (e : Int) : Hp := [[(b2, cel [v] 32)], [(b3, cel [.int .i64 e] 33)]]
theorem open1_held {b2 b3 : Nat} {v : Value} {e : Int} : DC Tryz.prog 37 [ptrB b2, ptrB b3] (held errF false) (held errF true) (out2 b2 b3 v e) (out2 b2 b3 (.pointer none) 4) := by
  refine DC.recover Tryz.func37 rfl rfl (Rec.held errF) rfl rfl rfl ?_
  show WP _ _ _ _ ⟨6, [(2, errF), (3, errF), (0, ptrB b2), (1, ptrB b3)], []⟩ _
  refine WP.seq <| WP.region <| v0 (S0.move rfl) rfl <| ?_
  refine v0 (S0.neqNilI Tryz.underlying20 rfl (.inr ⟨⟨_, _, rfl⟩, rfl⟩)) rfl <| ?_
  refine vE <| ?_
  refine WP.condTh rfl (rfl) ?_
  refine WP.region <| vs (S1.store rfl rfl (by first | rfl | exact IsSl.cv (by assumption))) <| vs (S1.store rfl rfl (by first | rfl | exact IsSl.cv (by assumption))) <| vE <| ?_
  exact ⟨.inl rfl, rfl, List.Perm.refl _⟩
theorem open1_ret {b2 b3 : Nat} {v : Value} {e : Int} : DC Tryz.prog 37 [ptrB b2, ptrB b3] .returning .returning (out2 b2 b3 v e) (out2 b2 b3 v e) := by
  refine DC.recover Tryz.func37 rfl rfl (Rec.ret) rfl rfl rfl ?_
  show WP _ _ _ _ ⟨6, [(2, .nilIface), (3, .nilIface), (0, ptrB b2), (1, ptrB b3)], []⟩ _
  refine WP.seq <| WP.region <| v0 (S0.move rfl) rfl <| ?_
  refine v0 (S0.neqNilI Tryz.underlying20 rfl (.inl ⟨rfl, rfl⟩)) rfl <| ?_
  refine vE <| ?_
  refine WP.condFh rfl (rfl) ?_
  refine WP.skip <| ?_
  exact ⟨.inl rfl, rfl, List.Perm.refl _⟩
abbrev dcl (b2 b3 : Nat) : List Deferred := [{ target := .fn (.func 37) ⟨[ptrB b2, ptrB b3]⟩, args := ⟨[]⟩ }]
theorem open_pan {fn : Func} {post : Value → Hp → Prop} {n : Nat} {sl : List (Nat × Value)} {h hr : Hp} {dc : List Blk} {b2 b3 : Nat} {v0 : Value} {e0 : Int} (hres : fn.results.toList = [.cell 2 32, .cell 3 33]) (h2 : look 2 sl = some (ptrB b2)) (h3 : look 3 sl = some (ptrB b3))
    (hp : h.flatten.Perm ((out2 b2 b3 v0 e0).flatten ++ (dc :: hr).flatten)) (hpost : ∀ j : List Blk, post (.tuple ⟨[.pointer none, .int .i64 4]⟩) [dc, j]) : RetR2 Tryz.prog fn 37 post (.panic [{ v := errF, recovered := false }]) ⟨n, sl, dcl b2 b3⟩ h := by
  refine .inl ⟨[ptrB b2, ptrB b3], rfl, errF, out2 b2 b3 v0 e0, out2 b2 b3 (.pointer none) 4, dc :: hr, rfl, hp, open1_held, ?_⟩
  refine Leaves.drop (h' := [dc, (out2 b2 b3 (.pointer none) 4).flatten]) (k := hr) (pm fun a_ => by (try simp only [List.flatten_append, List.flatten_cons, List.flatten_nil, List.append_nil, List.cons_append, List.nil_append, List.append_assoc, nOf_app, nOf_cons, nOf_nil, Nat.add_zero, Nat.zero_add, List.map_append, List.map_cons, List.map_nil, cel, sv]); first | done | omega) ?_
  exact rc2 hres h2 (load_sca (l := [.pointer none]) (U := 32) (fz := (0, 0)) (by simp) rfl) h3 (load_sca (l := [.int .i64 4]) (U := 33) (fz := (0, 0)) (by simp) rfl) (hpost _)
theorem open_ret {fn : Func} {post : Value → Hp → Prop} {n : Nat} {sl : List (Nat × Value)} {h hr : Hp} {cc lc dc : List Blk} {b2 b3 bb : Nat} (hres : fn.results.toList = [.cell 2 32, .cell 3 33]) (h2 : look 2 sl = some (ptrB b2)) (h3 : look 3 sl = some (ptrB b3))
    (hp : h.flatten.Perm ((out2 b2 b3 (ptrB bb) 0).flatten ++ (cc :: lc :: dc :: hr).flatten)) (hpost : ∀ j : List Blk, post (.tuple ⟨[ptrB bb, .int .i64 0]⟩) [cc, lc, dc, j]) : RetR2 Tryz.prog fn 37 post .ret ⟨n, sl, dcl b2 b3⟩ h := by
  refine .inl ⟨[ptrB b2, ptrB b3], rfl, out2 b2 b3 (ptrB bb) 0, out2 b2 b3 (ptrB bb) 0, cc :: lc :: dc :: hr, hp, open1_ret, ?_⟩
  refine Leaves.drop (h' := [cc, lc, dc, (out2 b2 b3 (ptrB bb) 0).flatten]) (k := hr) (pm fun a_ => by (try simp only [List.flatten_append, List.flatten_cons, List.flatten_nil, List.append_nil, List.cons_append, List.nil_append, List.append_assoc, nOf_app, nOf_cons, nOf_nil, Nat.add_zero, Nat.zero_add, List.map_append, List.map_cons, List.map_nil, cel, sv]); first | done | omega) ?_
  exact rc2 hres h2 (load_sca (l := [ptrB bb]) (U := 32) (fz := (0, 0)) (by simp) rfl) h3 (load_sca (l := [.int .i64 0]) (U := 33) (fz := (0, 0)) (by simp) rfl) (hpost _)
theorem wopen2_spec {db : Nat} {D : Dk} {dc : List Blk} (hd : IsDisk db D dc) (hk : DkG D) (hW : D.W.length ≤ 900000) : FN Tryz.prog 36 [ptrB db] [dc] (fun u h => ∃ lv lc dc', u = .tuple ⟨[lv, .int .i64 (openLg D).1]⟩ ∧ (((openLg D).1 ≠ 0 ∧ lv = .pointer none ∧ dc' = dc) ∨ ((openLg D).1 = 0 ∧ ∃ lb, lv = ptrB lb ∧ IsLog lb db (openLg D).2.1 lc ∧ IsDisk db (openLg D).2.2 dc')) ∧ h = [lc, dc']) :=
  (wopen_spec hd hk hW).lets fun u h q => by
    rcases q with ⟨e, rfl, rfl⟩ | ⟨e, lb, lc, dc', hl, hd', rfl, rfl⟩
    · exact ⟨[[], dc], [], ⟨_, [], dc, rfl, .inl ⟨e, rfl, rfl⟩, rfl⟩, by simp⟩
    · exact ⟨[lc, dc'], [], ⟨_, lc, dc', by rw [e], .inr ⟨e, lb, rfl, hl, hd'⟩, rfl⟩, by simp⟩
theorem openLg_ok {D : Dk} (hk : DkG D) : LgOk (openLg D).2.1 ∧ (openLg D).2.1.st.length ≤ 65536 ∧ ∀ x ∈ (openLg D).2.1.l, x.length ≤ 65536 := by
  obtain ⟨hrd, hst⟩ := head_le (hk.ok.now 0)
  obtain ⟨hal, han⟩ := allB_le (D.now.get 1)
  obtain ⟨hrl, hrn⟩ := recs_le (headB (D.now.get 0)).1 _ hal
  have hn1 := hk.ok.now 1
  unfold openLg
  split
  · exact ⟨⟨by simp, by simp⟩, by simp, by simp⟩
  · exact ⟨⟨by dsimp only; omega, by dsimp only; omega⟩, hst, hrl⟩
def OpenP (db : Nat) (D : Dk) (u : Value) (h : Hp) : Prop :=
  ((openBk D).1 ≠ 0 ∧ u = .tuple ⟨[.pointer none, .int .i64 (openBk D).1]⟩ ∧ ∃ dc', IsDisk db (openBk D).2.2 dc' ∧ h = [dc']) ∨
  ((openBk D).1 = 0 ∧ ∃ b G bb lb cc lc dc', (openBk D).2.1 = some (b, G) ∧ CtW b ∧ b.n ≤ 2000000000000 ∧ LgOk G ∧ IsCt bb lb b cc ∧ IsLog lb db G lc ∧ IsDisk db (openBk D).2.2 dc' ∧ u = .tuple ⟨[ptrB bb, .int .i64 0]⟩ ∧ h = [cc, lc, dc'])
theorem bopen_spec {db : Nat} {D : Dk} {dc : List Blk} (hd : IsDisk db D dc) (hk : DkG D) (hW : D.W.length ≤ 900000) (hst : (openLg D).1 = 0 → (openLg D).2.1.st = [] ∨ ∃ B, readK (openLg D).2.1.st = some B) : FN Tryz.prog 11 [ptrB db] [dc] (OpenP db D) := by
  refine FN.lets (post := fun u h => ∃ h0 j, OpenP db D u h0 ∧ h = h0 ++ [j]) ?_ (fun u h ⟨h0, j, hp, e⟩ => ⟨h0, [j], hp, by rw [e]; simp⟩)
  obtain ⟨hlg, hstl, hll⟩ := openLg_ok hk
  refine FN.introR2 (k := 37) 41 [(0, ptrB db)] Tryz.func11 rfl (enters Tryz.func11 (by kernel_rfl) rfl) (enters Tryz.func37 (by kernel_rfl) rfl) Tryz.ntmps11 rfl rfl ?_
  refine WP.seq <| WP.region <| vn (S1.alloc) rfl fun b2 => vn (S1.alloc) rfl fun b3 => vE <| WP.seq <| WP.region <| v0 (S0.move rfl) rfl <| ?_
  refine vc (S1.callF rfl (wopen2_spec hd hk hW) (take1 (atS (atS at0)) take0)) rfl ?_
  rintro _ _ ⟨lv, lc, dc2, rfl, hq, rfl⟩
  refine app ?_
  refine v0 (S0.move rfl) rfl <| v0 (S0.extract rfl rfl) rfl <| v0 (S0.extract rfl rfl) rfl <| v0 (S0.assign rfl) rfl <| vs (S1.store rfl rfl (by first | rfl | exact IsSl.cv (by assumption))) <| vE <| WP.seq <| WP.seq <| WP.region <| v0 (S0.load rfl rfl) rfl <| v0 (S0.cmp rfl rfl rfl) rfl <| vE <| ?_
  first | refine WP.condP rfl (fun h1 => ?_) (fun h1 => ?_) | refine WP.condN rfl (fun h1 => ?_) (fun h1 => ?_) | refine WP.cond rfl (fun h1 => ?_) (fun h1 => ?_)
  · have hbk : openBk D = ((openLg D).1, none, D) := by unfold openBk; rw [if_pos h1]
    rcases hq with ⟨-, rfl, rfl⟩ | ⟨he, -⟩
    · refine WP.seq <| WP.drawP [(0, none), (1, none), (2, none)] mixed (by kernel_rfl) (by kernel_rfl) (by kernel_rfl) (take1 (atS (atS at0)) take0) <| w0 rfl rfl rfl (S0.load rfl rfl) rfl <| ws rfl rfl rfl rfl (S1.store rfl rfl (by first | rfl | exact IsSl.cv (by assumption))) <| ?_
      refine wlast rfl (by kernel_rfl) rfl rfl (S1.store rfl rfl rfl) ?_
      refine WP.ret <| ?_
      refine .inr ⟨rfl, Leaves.drop (h' := [dc2, [(b2, cel [.pointer none] 32), (b3, cel [.int .i64 (openLg D).1] 33)]]) (k := [lc]) (pm fun a_ => by (try simp only [List.flatten_append, List.flatten_cons, List.flatten_nil, List.append_nil, List.cons_append, List.nil_append, List.append_assoc, nOf_app, nOf_cons, nOf_nil, Nat.add_zero, Nat.zero_add, List.map_append, List.map_cons, List.map_nil, cel, sv]); first | done | omega) ?_⟩
      refine rc2 rfl rfl (load_sca (l := [.pointer none]) (U := 32) (fz := (0, 0)) (by simp) rfl) rfl (load_sca (l := [.int .i64 (openLg D).1]) (U := 33) (fz := (0, 0)) (by simp) rfl) ?_
      exact ⟨[dc2], _, .inl ⟨by rw [hbk]; exact h1, by rw [hbk], dc2, by rw [hbk]; exact hd, rfl⟩, rfl⟩
    · exact absurd he h1
  · have he : (openLg D).1 = 0 := by simpa using h1
    rcases hq with ⟨hne, -⟩ | ⟨-, lb, rfl, hl, hd2⟩
    · exact absurd he hne
    have hst2 := hst he
    have hbk : openBk D = match bookOf (openLg D).2.1.st (openLg D).2.1.l with | none => (4, none, (openLg D).2.2) | some b => (0, some (b, (openLg D).2.1), (openLg D).2.2) := by unfold openBk; rw [if_neg (by rw [he]; simp)]; cases bookOf (openLg D).2.1.st (openLg D).2.1.l <;> rfl
    rw [he]
    generalize (openLg D).2.1 = G at hl hst2 hlg hstl hll hbk
    generalize (openLg D).2.2 = D2 at hd2 hbk
    refine WP.skip <| WP.seq <| WP.region <| v0 (S0.makeFunc rfl rfl) rfl <| ?_
    refine WO.defer rfl rfl ?_
    refine vE <| WP.seq <| WP.region <| v0 (S0.move rfl) rfl <| vnv (S1.makeMap) rfl fun b19 => v0 (S0.build rfl (qs := [(0, _), (2, _)]) rfl) rfl <| vn (S1.box rfl rfl) rfl fun b21 => v0 (S0.assign rfl) rfl <| vE <| WP.seq <| WP.seq <| WP.region <| v0 (S0.move rfl) rfl <| ?_
    have hct0 : IsCt b21 lb ct0 [bkB b21 lb (.slice none 0 0) b19 0, (b19, mapO (Value.int .i64) [] 0)] := ⟨_, [], b19, [], 0, IsSl.nil, MkA.nil, rfl⟩
    refine vcd (S1.callF rfl (wstate_spec hl) (take1 (atS (atS at0)) take0)) rfl ?_
    refine v0 (S0.assign rfl) rfl <| vE <| WP.seq <| WP.region <| v0 (S0.move rfl) rfl <| v0 (S0.cmpS rfl rfl rfl) rfl <| vE <| ?_
    refine WP.cutT (fun q : Ct × List Blk => (if G.st = [] then some ct0 else readK G.st) = some q.1 ∧ CtW q.1 ∧ q.1.n ≤ 1099511627776 ∧ IsCt b21 lb q.1 q.2) (fun q : Ct × List Blk => [(2, ptrB b2), (3, ptrB b3), (4, ptrB lb), (5, ptrB b21)]) (fun q : Ct × List Blk => [q.2, lc, dc2, [(b3, cel [.int .i64 0] 33)], [(b2, cel [.pointer none] 32)]]) ?_ (fun q hinv => ?_)
    · -- (nothing to walk: cond)
      first | refine WP.condP rfl (fun h2 => ?_) (fun h2 => ?_) | refine WP.condN rfl (fun h2 => ?_) (fun h2 => ?_) | refine WP.cond rfl (fun h2 => ?_) (fun h2 => ?_)
      · obtain ⟨B, hB⟩ := hst2.resolve_left (by simpa using h2)
        refine WP.region <| v0 (S0.move rfl) rfl <| v0 (S0.move rfl) rfl <| ?_
        refine WO.perm (h' := [[bkB b21 lb (.slice none 0 0) b19 0, (b19, mapO (Value.int .i64) [] 0)], lc, dc2, [(b3, cel [.int .i64 0] 33)], [(b2, cel [.pointer none] 32)]]) (k := []) (pm fun a_ => by (try simp only [List.flatten_append, List.flatten_cons, List.flatten_nil, List.append_nil, List.cons_append, List.nil_append, List.append_assoc, nOf_app, nOf_cons, nOf_nil, Nat.add_zero, Nat.zero_add, List.map_append, List.map_cons, List.map_nil, cel, sv, nilE, mapO, bkB, ptrB]); first | done | omega) ?_
        refine vc (S1.callF rfl (bread_spec hct0 (s := G.st) (by omega) hB) (take1 at0 take0)) rfl ?_
        rintro _ _ ⟨cc2, hw, hn, hc, rfl⟩
        refine app ?_
        refine vE <| ?_
        exact ⟨(B, cc2), (by first | exact ⟨by rw [if_neg (by simpa using h2), hB], hw, hn, hc⟩ | (dsimp only; exact ⟨by rw [if_neg (by simpa using h2), hB], hw, hn, hc⟩)), ⟨⟨rfl, rfl, rfl, rfl, trivial⟩, rfl, rfl⟩, ⟨_, (take1 at0 (take1 at0 (take1 at0 (take1 at0 (take1 at0 take0)))))⟩⟩
      · refine WP.skip <| ?_
        exact ⟨(ct0, [bkB b21 lb (.slice none 0 0) b19 0, (b19, mapO (Value.int .i64) [] 0)]), (by first | exact ⟨by rw [if_pos (by simpa using h2)], CtOk.nil.w, by simp, hct0⟩ | (dsimp only; exact ⟨by rw [if_pos (by simpa using h2)], CtOk.nil.w, by simp, hct0⟩)), ⟨⟨rfl, rfl, rfl, rfl, trivial⟩, rfl, rfl⟩, ⟨[], (pm fun a_ => by (try simp only [List.flatten_append, List.flatten_cons, List.flatten_nil, List.append_nil, List.cons_append, List.nil_append, List.append_assoc, nOf_app, nOf_cons, nOf_nil, Nat.add_zero, Nat.zero_add, List.map_append, List.map_cons, List.map_nil, cel, sv, nilE, mapO, bkB, ptrB]); first | done | omega)⟩⟩
    obtain ⟨B0, cc0⟩ := q
    obtain ⟨hB0, hw0, hn0, hc0⟩ := hinv
    dsimp only at hB0 hw0 hn0 hc0 ⊢
    have hlr := hlg.l
    have hbo : bookOf G.st G.l = redosK G.l B0 := by unfold bookOf; rw [hB0]
    refine WP.seq <| WP.seq <| WP.region <| v0 (S0.move rfl) rfl <| ?_
    refine vc (S1.callF rfl (wrecords_spec hl hlg) (take1 (atS at0) take0)) rfl ?_
    rintro rv _ ⟨rrow, hrs, rfl⟩
    refine app ?_
    obtain ⟨ra, rcap, rfl, hrcap, hrrow⟩ := hrs.strsE
    refine v0 (S0.lenSl rfl) rfl <| v0 (S0.move rfl) rfl <| vE <| WP.block <| ?_
    refine WP.loop (fun st : Nat × Ct × List Blk => st.1 ≤ G.l.length ∧ redosK G.l B0 = redosK (G.l.drop st.1) st.2.1 ∧ CtW st.2.1 ∧ st.2.1.n ≤ 1099511627776 + st.1 ∧ IsCt b21 lb st.2.1 st.2.2) (fun st : Nat × Ct × List Blk => [(2, ptrB b2), (3, ptrB b3), (5, ptrB b21), (30, .slice ra G.l.length rcap), (31, .int .i64 (G.l.length : Int)), (32, .int .i64 (st.1 : Int))]) (fun st : Nat × Ct × List Blk => [st.2.2, rrow, lc, dc2, [(b3, cel [.int .i64 0] 33)], [(b2, cel [.pointer none] 32)]]) (fun st : Nat × Ct × List Blk => G.l.length - st.1) ((0, B0, cc0)) (⟨Nat.zero_le _, rfl, hw0, hn0, hc0⟩) ⟨rfl, rfl, rfl, rfl, rfl, rfl, trivial⟩ ⟨[], (pm fun a_ => by (try simp only [List.flatten_append, List.flatten_cons, List.flatten_nil, List.append_nil, List.cons_append, List.nil_append, List.append_assoc, nOf_app, nOf_cons, nOf_nil, Nat.add_zero, Nat.zero_add, List.map_append, List.map_cons, List.map_nil, cel, sv]); first | done | omega)⟩ (fun st hinv => ?_)
    obtain ⟨k, b, cc⟩ := st
    obtain ⟨hk, hrd, hw, hn, hc⟩ := hinv
    dsimp only at hk hrd hw hn hc ⊢
    refine WP.seq <| WP.region <| v0 (S0.cmp rfl rfl rfl) rfl <| vE <| WP.seq <| ?_
    first | refine WP.condP rfl (fun h2 => ?_) (fun h2 => ?_) | refine WP.condN rfl (fun h2 => ?_) (fun h2 => ?_) | refine WP.cond rfl (fun h2 => ?_) (fun h2 => ?_)
    · have hlt : k < G.l.length := by omega
      have hx : G.l[k]? = some G.l[k] := by simp [hlt]
      have hxl := hll _ (List.getElem_mem hlt)
      have hdr : G.l.drop k = G.l[k] :: G.l.drop (k + 1) := List.drop_eq_getElem_cons hlt
      generalize G.l[k] = x at hx hxl hdr
      rw [hdr, redosK] at hrd
      rcases hrrow with ⟨e, -⟩ | ⟨b1, sp1, rfl, rfl, hsp1⟩
      · rw [e] at hlt; simp at hlt
      refine WP.skip <| WP.seq <| WP.block <| WP.seq <| WP.region <| ?_
      refine v0 (S0.index1 rfl rfl hlt) rfl <| ?_
      refine v0 (S0.load rfl (strs_get hx)) rfl <| ?_
      refine v0 (S0.assign rfl) rfl <| vE <| WP.region <| v0 (S0.move rfl) rfl <| v0 (S0.move rfl) rfl <| ?_
      refine vcX rfl (bredo_spec hc hw (by omega) (s := x) (by omega)) (take1 at0 take0) rfl ?_ ?_
      · rintro v hq ⟨hno, rfl⟩; exact open_pan (dc := dc2) (v0 := .pointer none) (e0 := 0) (hr := hq ++ [[(b1, .cells ⟨strs G.l ++ sp1⟩ 9 (0, 0))], lc]) rfl rfl rfl (pm fun a_ => by (try simp only [List.flatten_append, List.flatten_cons, List.flatten_nil, List.append_nil, List.cons_append, List.nil_append, List.append_assoc, nOf_app, nOf_cons, nOf_nil, Nat.add_zero, Nat.zero_add, List.map_append, List.map_cons, List.map_nil, cel, sv]); first | done | omega) (fun j => ⟨[dc2], j, .inl ⟨by rw [hbk, hbo, hrd, hno]; show (4 : Int) ≠ 0; decide, by rw [hbk, hbo, hrd, hno], dc2, by rw [hbk, hbo, hrd, hno]; exact hd2, rfl⟩, rfl⟩)
      rintro _ _ ⟨b', cc', hre, hw', hn', hc', rfl⟩
      refine app ?_
      rw [hre] at hrd
      dsimp only at hrd
      refine vE <| WP.region <| v0 (S0.ari rfl rfl rfl (wrap_i64 (by omega))) rfl <| v0 (S0.move rfl) rfl <| vE <| ?_
      exact ⟨(k + 1, b', cc'), (by first | exact ⟨hlt, hrd, hw', by omega, hc'⟩ | (dsimp only; exact ⟨hlt, hrd, hw', by omega, hc'⟩)), (show G.l.length - (k + 1) < G.l.length - k by omega), ⟨⟨rfl, rfl, rfl, rfl, rfl, rfl, trivial⟩, rfl, rfl⟩, ⟨_, (take1 at0 (take1 at0 (take1 at0 (take1 at0 (take1 at0 (take1 at0 take0))))))⟩⟩
    · have e : k = G.l.length := by omega
      rw [e, List.drop_length, redosK] at hrd
      rw [hrd] at hbo
      rw [hbo] at hbk
      dsimp only at hbk
      refine WP.exit <| WP.seq <| WP.region <| v0 (S0.move rfl) rfl <| vs (S1.store rfl rfl (by first | rfl | exact IsSl.cv (by assumption))) <| vs (S1.store rfl rfl (by first | rfl | exact IsSl.cv (by assumption))) <| vE <| WP.ret <| ?_
      exact open_ret (cc := cc) (lc := lc) (dc := dc2) (hr := [rrow]) rfl rfl rfl (pm fun a_ => by (try simp only [List.flatten_append, List.flatten_cons, List.flatten_nil, List.append_nil, List.cons_append, List.nil_append, List.append_assoc, nOf_app, nOf_cons, nOf_nil, Nat.add_zero, Nat.zero_add, List.map_append, List.map_cons, List.map_nil, cel, sv]); first | done | omega) (fun j => ⟨[cc, lc, dc2], j, .inr ⟨by rw [hbk], b, G, b21, lb, cc, lc, dc2, by rw [hbk], hw, by omega, hlg, hc, hl, by rw [hbk]; exact hd2, rfl, rfl⟩, rfl⟩)
end Go.Proofs.YtjpjebfodhbdfaaGreatDoor
namespace Go.Proofs.YtjpjebfodhbdfaaGreatDoor
open Go
theorem checkLg_ok {G : Lg} {D : Dk} {s : Str} (h1 : G.rd ≤ 1900000000000) (h2 : G.l.length ≤ 800000) : LgOk (checkLg G D s).2.1 := by
  unfold checkLg
  split
  · exact ⟨by dsimp only; omega, by dsimp only; omega⟩
  · exact ⟨by dsimp only; omega, by simp⟩
structure Rooms (b : Ct) (G : Lg) (D : Dk) : Prop where
  w : CtW b
  n : b.n ≤ 3000000000000
  rd : G.rd ≤ 1900000000000
  l : G.l.length ≤ 800000
  k : DkG D
  W : D.W.length ≤ 800000
theorem Rooms.lg {b : Ct} {G : Lg} {D : Dk} (h : Rooms b G D) : LgOk G := ⟨by have := h.rd; omega, by have := h.l; omega⟩
theorem bnote_spec {bb lb db : Nat} {b : Ct} {G : Lg} {D : Dk} {cc lc dc : List Blk} (hr : Rooms b G D) (hc : IsCt bb lb b cc) (hl : IsLog lb db G lc) (hd : IsDisk db D dc) (s : Str) : FN Tryz.prog 50 [ptrB bb, sv s] [cc, lc, dc]
    (fun _ h => ∃ lc' dc', IsLog lb db (noteK b G D s).1 lc' ∧ IsDisk db (noteK b G D s).2 dc' ∧ h = [cc, lc', dc']) := by
  have hc0 := hc
  have hn := hr.n
  have hW := hr.W
  have hlr := hr.l
  obtain ⟨v, row, m, A, ck, hs, hA, rfl⟩ := hc
  generalize hC : (m, mapO (Value.int .i64) A ck) :: row = C at hc0
  refine FN.intro 24 [(0, ptrB bb), (1, sv s)] Tryz.func50 rfl (enters Tryz.func50 (by kernel_rfl) rfl) Tryz.ntmps50 rfl rfl ?_
  refine WP.seq <| WP.seq <| WP.region <| v0 (S0.move rfl) rfl <| v0 (S0.nilCheck rfl) rfl <| v0 (S0.fieldAddr rfl) rfl <| v0 (S0.load rfl rfl) rfl <| ?_
  refine vc (S1.callF rfl (wrecords_spec hl hr.lg) (take1 (atS at0) take0)) rfl ?_
  rintro rv _ ⟨rrow, hrs, rfl⟩
  refine app ?_
  obtain ⟨ra, rcap, rfl, hrcap, -⟩ := hrs.strsE
  refine v0 (S0.lenSl rfl) rfl <| v0 (S0.cmp rfl rfl rfl) rfl <| vE <| ?_
  first | refine WP.condP rfl (fun h1 => ?_) (fun h1 => ?_) | refine WP.condN rfl (fun h1 => ?_) (fun h1 => ?_) | refine WP.cond rfl (fun h1 => ?_) (fun h1 => ?_)
  · have e : noteK b G D s = (appendLg (checkLg G D (bytesK b)).2.1 (checkLg G D (bytesK b)).2.2 s).2 := by unfold noteK; rw [if_pos (by omega)]
    have hcW := checkLg_W G D (bytesK b)
    refine WP.drawP [(0, none), (1, none), (2, none), (3, none), (4, none), (5, none), (6, none)] mixed (by kernel_rfl) (by kernel_rfl) (by kernel_rfl) (take1 (atS (atS at0)) take0) <| w0 rfl rfl rfl (S0.move rfl) rfl <| w0 rfl rfl rfl (S0.nilCheck rfl) rfl <| w0 rfl rfl rfl (S0.fieldAddr rfl) rfl <| w0 rfl rfl rfl (S0.load rfl rfl) rfl <| w0 rfl rfl rfl (S0.move rfl) rfl <| ?_
    refine wcS rfl rfl rfl rfl (S1.callF rfl (bbytes_spec hc0 hr.w (by omega)) (take1 at0 take0)) rfl (take1 at0 take0) ?_
    refine wc rfl rfl rfl rfl (S1.callF rfl (wcheck_spec hl hr.lg hd hr.k (by omega) (bytesK b)) (take1 (atS at0) (take1 (atS at0) take0))) rfl ?_
    rintro _ _ ⟨lc2, dc2, hl2, hd2, rfl, rfl⟩
    refine wapp ?_
    refine wE <| WP.region <| v0 (S0.move rfl) rfl <| v0 (S0.nilCheck rfl) rfl <| v0 (S0.fieldAddr rfl) rfl <| v0 (S0.load rfl rfl) rfl <| v0 (S0.move rfl) rfl <| ?_
    refine vc (S1.callF rfl (wappend_spec hl2 (checkLg_ok hr.rd hr.l) hd2 (checkLg_DkG hr.k _).ok (by omega) s) (take1 (atS at0) (take1 (atS at0) take0))) rfl ?_
    rintro _ _ ⟨lc3, dc3, hl3, hd3, rfl, rfl⟩
    refine app ?_
    refine vE <| ?_
    refine Leaves.drop (take1 (atS (atS at0)) (take1 at0 (take1 at0 take0))) ?_
    refine r0 rfl ?_
    rw [e]; exact ⟨lc3, dc3, hl3, hd3, rfl⟩
  · have e : noteK b G D s = (appendLg G D s).2 := by unfold noteK; rw [if_neg (by omega)]
    refine WP.skip <| WP.region <| v0 (S0.move rfl) rfl <| v0 (S0.nilCheck rfl) rfl <| v0 (S0.fieldAddr rfl) rfl <| v0 (S0.load rfl rfl) rfl <| v0 (S0.move rfl) rfl <| ?_
    refine vc (S1.callF rfl (wappend_spec hl hr.lg hd hr.k.ok (by omega) s) (take1 (atS at0) (take1 (atS (atS at0)) take0))) rfl ?_
    rintro _ _ ⟨lc3, dc3, hl3, hd3, rfl, rfl⟩
    refine app ?_
    refine vE <| ?_
    refine Leaves.drop (take1 (atS (atS (atS at0))) (take1 at0 (take1 at0 take0))) ?_
    refine r0 rfl ?_
    rw [e]; exact ⟨lc3, dc3, hl3, hd3, rfl⟩
theorem bput_spec {bb lb db : Nat} {b : Ct} {G : Lg} {D : Dk} {cc lc dc : List Blk} (hr : Rooms b G D) (hc : IsCt bb lb b cc) (hl : IsLog lb db G lc) (hd : IsDisk db D dc) {e : Ev} (ht : e.t.length ≤ 900000) (hel : e.l.length ≤ 900000) : FN Tryz.prog 14 [ptrB bb, .agg ⟨evB e⟩] [cc, lc, dc]
    (fun u h => ∃ cc' lc' dc', u = .int .i64 (putBk b G D e).1 ∧ IsCt bb lb (putBk b G D e).2.1 cc' ∧ IsLog lb db (putBk b G D e).2.2.1 lc' ∧ IsDisk db (putBk b G D e).2.2.2 dc' ∧ h = [cc', lc', dc']) := by
  have hn := hr.n
  refine FN.intro 20 [(0, ptrB bb), (1, .agg ⟨evB e⟩)] Tryz.func14 rfl (enters Tryz.func14 (by kernel_rfl) rfl) Tryz.ntmps14 rfl rfl ?_
  refine WP.seq <| WP.region <| vn (S1.box rfl rfl) rfl fun b3 => v0 (S0.assign rfl) rfl <| vE <| WP.seq <| WP.seq <| WP.region <| v0 (S0.move rfl) rfl <| v0 (S0.loadAL rfl) rfl <| ?_
  refine vcd (S1.callF rfl (bwhy_spec hc hr.w (e := e) ht) (take1 (atS at0) take0)) rfl ?_
  refine v0 (S0.assign rfl) rfl <| vE <| WP.seq <| WP.region <| v0 (S0.move rfl) rfl <| v0 (S0.cmp rfl rfl rfl) rfl <| vE <| ?_
  first | refine WP.condP rfl (fun h1 => ?_) (fun h1 => ?_) | refine WP.condN rfl (fun h1 => ?_) (fun h1 => ?_) | refine WP.cond rfl (fun h1 => ?_) (fun h1 => ?_)
  · have ep : putBk b G D e = (whyK b e, b, G, D) := by unfold putBk; rw [if_pos h1]
    refine WP.seq <| WP.region <| v0 (S0.move rfl) rfl <| v0 (S0.assign rfl) rfl <| vE <| WP.ret <| ?_
    refine Leaves.drop (take1 at0 (take1 (atS at0) (take1 (atS at0) take0))) ?_
    refine r1 rfl rfl ?_
    rw [ep]; exact ⟨cc, lc, dc, rfl, hc, hl, hd, rfl⟩
  · have hw : whyK b e = 0 := by simpa using h1
    have ep : putBk b G D e = (0, addK b e, noteK b G D (putR e)) := by unfold putBk; rw [if_neg (by simpa using h1)]
    have hpe := putE_le (why_zero hw).1
    refine WP.skip <| WP.seq <| WP.region <| v0 (S0.move rfl) rfl <| v0 (S0.loadAL rfl) rfl <| ?_
    refine vcd (S1.callF rfl (eput_spec (e := e) ht hel) take0) rfl ?_
    refine v0 (S0.addS (a := [80]) rfl rfl (by simp; omega)) rfl <| ?_
    refine vc (S1.callF rfl (bnote_spec hr hc hl hd (putR e)) (take1 at0 (take1 (atS at0) (take1 (atS at0) take0)))) rfl ?_
    rintro _ _ ⟨lc2, dc2, hl2, hd2, rfl⟩
    refine app ?_
    refine vE <| WP.seq <| WP.region <| v0 (S0.move rfl) rfl <| v0 (S0.loadAL rfl) rfl <| ?_
    refine vc (S1.callF rfl (badd_spec hc hr.w (by omega) e) (take1 at0 take0)) rfl ?_
    rintro _ _ ⟨cc2, hc2, rfl⟩
    refine app ?_
    refine vE <| WP.seq <| WP.region <| v0 (S0.assign rfl) rfl <| vE <| WP.ret <| ?_
    refine Leaves.drop (take1 at0 (take1 at0 (take1 at0 take0))) ?_
    refine r1 rfl rfl ?_
    rw [ep]; exact ⟨cc2, lc2, dc2, rfl, hc2, hl2, hd2, rfl⟩
theorem btick_spec {bb lb db : Nat} {b : Ct} {G : Lg} {D : Dk} {cc lc dc : List Blk} (hr : Rooms b G D) (hc : IsCt bb lb b cc) (hl : IsLog lb db G lc) (hd : IsDisk db D dc) (n : Int) : FN Tryz.prog 16 [ptrB bb, .int .i64 n] [cc, lc, dc]
    (fun u h => ∃ cc' lc' dc', u = .int .i64 (tickBk b G D n).1 ∧ IsCt bb lb (tickBk b G D n).2.1 cc' ∧ IsLog lb db (tickBk b G D n).2.2.1 lc' ∧ IsDisk db (tickBk b G D n).2.2.2 dc' ∧ h = [cc', lc', dc']) := by
  refine FN.intro 20 [(0, ptrB bb), (1, .int .i64 n)] Tryz.func16 rfl (enters Tryz.func16 (by kernel_rfl) rfl) Tryz.ntmps16 rfl rfl ?_
  refine WP.seq <| WP.region <| v0 (S0.assign rfl) rfl <| vE <| WP.seq <| WP.seq <| WP.region <| v0 (S0.move rfl) rfl <| v0 (S0.cmp rfl rfl rfl) rfl <| v0 (S0.move rfl) rfl <| ?_
  first | refine csP (t := 7) rfl (fun h1 => ?_) (fun h1 => ?_) | refine csN (t := 7) rfl (fun h1 => ?_) (fun h1 => ?_) | refine cs (t := 7) rfl (fun h1 => ?_) (fun h1 => ?_)
  · have ep : tickBk b G D n = (1, b, G, D) := by unfold tickBk; rw [if_pos (by omega)]
    refine gF rfl rfl <| gF rfl rfl <| v0 (S0.pickT rfl rfl) rfl <| vE <| WP.condT rfl <| WP.seq <| WP.region <| v0 (S0.assign rfl) rfl <| vE <| WP.ret <| ?_
    refine r1 rfl rfl ?_
    rw [ep]; exact ⟨cc, lc, dc, rfl, hc, hl, hd, rfl⟩
  · refine gT rfl <| v0 (S0.move rfl) rfl <| gT rfl <| v0 (S0.cmp rfl rfl rfl) rfl <| v0 (S0.pickF rfl rfl) rfl <| vE <| ?_
    first | refine WP.condP rfl (fun h2 => ?_) (fun h2 => ?_) | refine WP.condN rfl (fun h2 => ?_) (fun h2 => ?_) | refine WP.cond rfl (fun h2 => ?_) (fun h2 => ?_)
    · have ep : tickBk b G D n = (1, b, G, D) := by unfold tickBk; rw [if_pos (by omega)]
      refine WP.seq <| WP.region <| v0 (S0.assign rfl) rfl <| vE <| WP.ret <| ?_
      refine r1 rfl rfl ?_
      rw [ep]; exact ⟨cc, lc, dc, rfl, hc, hl, hd, rfl⟩
    · have ep : tickBk b G D n = (0, ageK b n, noteK b G D (tickR n)) := by unfold tickBk; rw [if_neg (by omega)]
      have hpn := putV_le n.toNat
      refine WP.skip <| WP.seq <| WP.region <| v0 (S0.move rfl) rfl <| v0 (S0.move rfl) rfl <| v0 (S0.convI rfl (wrap_u64 (by omega))) rfl <| ?_
      rw [show Value.int .u64 n = .int .u64 ((n.toNat : Nat) : Int) by rw [Int.toNat_of_nonneg (by omega)]]
      refine vcd (S1.callF rfl (put_spec (n := n.toNat) (by omega)) take0) rfl ?_
      refine v0 (S0.addS (a := [84]) rfl rfl (by simp; omega)) rfl <| ?_
      refine vc (S1.callF rfl (bnote_spec hr hc hl hd (tickR n)) (take1 at0 (take1 at0 (take1 at0 take0)))) rfl ?_
      rintro _ _ ⟨lc2, dc2, hl2, hd2, rfl⟩
      refine app ?_
      refine vE <| WP.seq <| WP.region <| v0 (S0.move rfl) rfl <| v0 (S0.move rfl) rfl <| ?_
      refine vc (S1.callF rfl (bage_spec hc hr.w (n := n) (by omega)) (take1 at0 take0)) rfl ?_
      rintro _ _ ⟨cc2, hc2, rfl⟩
      refine app ?_
      refine vE <| WP.seq <| WP.region <| v0 (S0.assign rfl) rfl <| vE <| WP.ret <| ?_
      refine r1 rfl rfl ?_
      rw [ep]; exact ⟨cc2, lc2, dc2, rfl, hc2, hl2, hd2, rfl⟩
theorem bsync_spec {bb lb db : Nat} {b : Ct} {G : Lg} {D : Dk} {cc lc dc : List Blk} (hc : IsCt bb lb b cc) (hl : IsLog lb db G lc) (hd : IsDisk db D dc) : FN Tryz.prog 18 [ptrB bb] [cc, lc, dc]
    (fun _ h => ∃ lc' dc', IsLog lb db (syncLg G) lc' ∧ IsDisk db (syncK D) dc' ∧ h = [cc, lc', dc']) := by
  obtain ⟨v, row, m, A, ck, hs, hA, rfl⟩ := hc
  refine FN.intro 7 [(0, ptrB bb)] Tryz.func18 rfl (enters Tryz.func18 (by kernel_rfl) rfl) Tryz.ntmps18 rfl rfl ?_
  refine WP.region <| v0 (S0.move rfl) rfl <| v0 (S0.nilCheck rfl) rfl <| v0 (S0.fieldAddr rfl) rfl <| v0 (S0.load rfl rfl) rfl <| ?_
  refine vc (S1.callF rfl (wsync_spec hl hd) (take1 (atS at0) (take1 (atS at0) take0))) rfl ?_
  rintro _ _ ⟨lc2, dc2, hl2, hd2, rfl⟩
  refine app ?_
  refine vE <| ?_
  refine Leaves.drop (take1 (atS (atS at0)) (take1 at0 (take1 at0 take0))) ?_
  refine r0 rfl ?_
  exact ⟨lc2, dc2, hl2, hd2, rfl⟩
end Go.Proofs.YtjpjebfodhbdfaaGreatDoor
namespace Go.Proofs.YtjpjebfodhbdfaaGreatDoor
open Go
end Go.Proofs.YtjpjebfodhbdfaaGreatDoor
namespace Go.Proofs.YtjpjebfodhbdfaaGreatDoor
open Go
abbrev rbB (rk rl : Nat) (v1 v2 v3 : Value) (n : Int) : Blk := (rk, .cells ⟨[ptrB rl, v1, v2, v3, .int .i64 n]⟩ 50 (0, 0))
end Go.Proofs.YtjpjebfodhbdfaaGreatDoor
namespace Go.Proofs.YtjpjebfodhbdfaaGreatDoor
open Go
theorem eqEv (x y : Ev) : (decide (x.o = y.o) && (decide (x.s = y.s) && (decide (x.t = y.t) && (decide (x.l = y.l) && (decide (x.e = y.e) && true))))) = decide (x = y) := by
  obtain ⟨o, s, t, l, e⟩ := x
  obtain ⟨o', s', t', l', e'⟩ := y
  rw [Bool.eq_iff_iff]; simp
theorem xequal_spec {v1 v2 : Value} {q1 q2 : List Blk} {a b : List Ev} (h1 : IsSl 41 5 v1 (evsB a) q1) (h2 : IsSl 41 5 v2 (evsB b) q2) (ha : a.length ≤ 1000000) : FN Tryz.prog 24 [v1, v2] [q1, q2] (is (.bool (decide (a = b))) [q1, q2]) := by
  obtain ⟨a1, c1, rfl, hc1, hr1⟩ := IsSl.elems (k := 4) evB_len h1
  obtain ⟨a2, c2, rfl, hc2, hr2⟩ := IsSl.elems (k := 4) evB_len h2
  refine FN.intro 26 [(0, .slice a1 a.length c1), (1, .slice a2 b.length c2)] Tryz.func24 rfl (enters Tryz.func24 (by kernel_rfl) rfl) Tryz.ntmps24 rfl rfl ?_
  refine WP.seq <| WP.region <| v0 (S0.assign rfl) rfl <| vE <| WP.seq <| WP.seq <| WP.region <| v0 (S0.move rfl) rfl <| v0 (S0.lenSl rfl) rfl <| v0 (S0.move rfl) rfl <| v0 (S0.lenSl rfl) rfl <| v0 (S0.cmp rfl rfl rfl) rfl <| vE <| ?_
  first | refine WP.condP rfl (fun hl => ?_) (fun hl => ?_) | refine WP.condN rfl (fun hl => ?_) (fun hl => ?_) | refine WP.cond rfl (fun hl => ?_) (fun hl => ?_)
  · refine WP.seq <| WP.region <| v0 (S0.assign rfl) rfl <| vE <| WP.ret <| ?_
    refine r1 rfl rfl ⟨?_, rfl⟩
    have : a ≠ b := fun e => hl (by rw [e])
    simp [this]
  · refine WP.skip <| WP.seq <| WP.seq <| WP.region <| v0 (S0.assign rfl) rfl <| vE <| WP.block <| ?_
    refine WP.loop (fun i : Nat => i ≤ a.length ∧ a.take i = b.take i) (fun i : Nat => [(0, .slice a1 a.length c1), (1, .slice a2 b.length c2), (5, .int .i64 (i : Int))]) (fun i : Nat => [q1, q2]) (fun i : Nat => a.length - i) (0) (⟨by omega, rfl⟩) ⟨rfl, rfl, rfl, trivial⟩ ⟨_, (take1 at0 (take1 at0 take0))⟩ (fun i hinv => ?_)
    obtain ⟨hi, htk⟩ := hinv
    refine WP.seq <| WP.seq <| WP.region <| v0 (S0.move rfl) rfl <| v0 (S0.move rfl) rfl <| v0 (S0.lenSl rfl) rfl <| v0 (S0.cmp rfl rfl rfl) rfl <| vE <| ?_
    first | refine WP.condP rfl (fun h3 => ?_) (fun h3 => ?_) | refine WP.condN rfl (fun h3 => ?_) (fun h3 => ?_) | refine WP.cond rfl (fun h3 => ?_) (fun h3 => ?_)
    · have hlt : i < a.length := by omega
      have hlt2 : i < b.length := by omega
      rcases hr1 with ⟨rfl, -⟩ | ⟨b1, sp1, rfl, rfl, hsp1⟩
      · simp at hlt
      rcases hr2 with ⟨rfl, -⟩ | ⟨b2, sp2, rfl, rfl, hsp2⟩
      · simp at hlt2
      have hx : a[i]? = some a[i] := by simp [hlt]
      have hy : b[i]? = some b[i] := by simp [hlt2]
      generalize a[i] = x at hx
      generalize b[i] = y at hy
      refine WP.skip <| WP.seq <| WP.block <| WP.seq <| WP.drawP [(0, none), (1, none), (2, none), (3, none), (4, none), (5, none), (6, none), (7, none), (8, none)] mixed (by kernel_rfl) (by kernel_rfl) (by kernel_rfl) (take1 at0 (take1 at0 take0)) <| w0 rfl rfl rfl (S0.move rfl) rfl <| w0 rfl rfl rfl (S0.move rfl) rfl <| ?_
      refine w0 rfl rfl rfl (S0.indexN (k := 5) rfl rfl hlt) rfl <| ?_
      refine w0 rfl rfl rfl (S0.loadA (vs := evB x) rfl (flat_take evB_len sp1 a i _ hx) rfl) rfl <| ?_
      refine w0 rfl rfl rfl (S0.move rfl) rfl <| w0 rfl rfl rfl (S0.move rfl) rfl <| ?_
      refine w0 rfl rfl rfl (S0.indexN (k := 5) rfl rfl hlt2) rfl <| ?_
      refine w0 rfl rfl rfl (S0.loadA (vs := evB y) rfl (flat_take evB_len sp2 b i _ hy) rfl) rfl <| ?_
      refine w0 rfl rfl rfl (S0.eqAg rfl rfl rfl rfl) rfl <| wE <| ?_
      rw [eqEv]
      by_cases e : x = y
      · subst e
        refine WP.condFh rfl ((by simp)) ?_
        refine WP.skip <| WP.region <| v0 (S0.move rfl) rfl <| v0 (S0.ari rfl rfl rfl (wrap_i64 (by omega))) rfl <| v0 (S0.assign rfl) rfl <| vE <| ?_
        exact ⟨i + 1, (by first | exact ⟨hlt, by rw [List.take_add_one, List.take_add_one, hx, hy, htk]⟩ | (dsimp only; exact ⟨hlt, by rw [List.take_add_one, List.take_add_one, hx, hy, htk]⟩)), (show a.length - (i + 1) < a.length - i by omega), ⟨⟨rfl, rfl, rfl, trivial⟩, rfl, rfl⟩, ⟨_, (take1 at0 (take1 at0 take0))⟩⟩
      · refine WP.condTh rfl ((by simp [e])) ?_
        refine WP.seq <| WP.region <| v0 (S0.assign rfl) rfl <| vE <| WP.ret <| ?_
        refine r1 rfl rfl ⟨?_, rfl⟩
        have : a ≠ b := fun e2 => e (by subst e2; rw [hx] at hy; cases hy; rfl)
        simp [this]
    · refine WP.exit <| WP.seq <| WP.region <| v0 (S0.assign rfl) rfl <| vE <| WP.ret <| ?_
      refine r1 rfl rfl ⟨?_, rfl⟩
      have : a = b := by
        rw [List.take_of_length_le (by omega), List.take_of_length_le (by omega)] at htk
        exact htk
      simp [this]
end Go.Proofs.YtjpjebfodhbdfaaGreatDoor
namespace Go.Proofs.YtjpjebfodhbdfaaGreatDoor
open Go
end Go.Proofs.YtjpjebfodhbdfaaGreatDoor
namespace Go.Proofs.YtjpjebfodhbdfaaGreatDoor
open Go
end Go.Proofs.YtjpjebfodhbdfaaGreatDoor
namespace Go.Proofs.YtjpjebfodhbdfaaGreatDoor
open Go
end Go.Proofs.YtjpjebfodhbdfaaGreatDoor
namespace Go.Proofs.YtjpjebfodhbdfaaGreatDoor
open Go
theorem putV_le7 {n : Nat} (h : n ≤ 1099511627776) : (putV n).length ≤ 7 := by
  rw [putV_len]; unfold sizeV behN
  split; omega
  split; omega
  split; omega
  split; omega
  split; omega
  split; omega
  split <;> omega
theorem putV_le1 {n : Nat} (h : n ≤ 240) : (putV n).length = 1 := by
  rw [putV_len]; unfold sizeV; rw [if_pos h]
theorem flatLe {α : Type} {f : α → Str} {m : Nat} : ∀ (l : List α), (∀ x ∈ l, (f x).length ≤ m) → (l.flatMap f).length ≤ m * l.length
  | [], _ => by simp
  | x :: l, h => by
    have h1 := flatLe l fun y hy => h y (by simp [hy])
    have h2 := h x (by simp)
    rw [List.flatMap_cons, List.length_append, List.length_cons, Nat.mul_add]; omega
theorem putE_len {e : Ev} (h : rightE e = true) : (putE e).length ≤ 224 := by
  have hb := rightE_bd h
  obtain ⟨ht, hl⟩ := right_tl h
  have a1 := putV_le7 (n := e.o.toNat) (by omega)
  have a2 := putV_le7 (n := e.s.toNat) (by omega)
  have a3 := putV_le7 (n := e.e.toNat) (by omega)
  have a4 := putV_le1 (n := e.t.length) (by omega)
  have a5 := putV_le1 (n := e.l.length) (by omega)
  unfold putE textB
  rw [if_pos h]
  simp only [List.length_append]
  omega
theorem bytes_len {b : Ct} (h : CtOk b) (hn : b.n ≤ 1000000) : (bytesK b).length ≤ 16384 := by
  obtain ⟨-, m2, m3⟩ := sortedM_iff.1 h.ms
  have hl := h.len
  have a1 := putV_le7 (n := b.n) (by omega)
  have a2 := putV_le7 (n := b.M.length) (by omega)
  have a3 := putV_le7 (n := b.L.length) (by omega)
  have e0 : marksB b.M = putV b.M.length ++ b.M.flatMap mkB := by unfold marksB; rw [if_pos h.ms]
  have a4 := flatLe (f := mkB) (m := 14) b.M fun x hx => by
    have := m2 x hx
    have b1 := putV_le7 (n := x.1.toNat) (by omega)
    have b2 := putV_le7 (n := x.2.toNat) (by omega)
    rw [List.length_append]; omega
  have a5 := flatLe (f := entB) (m := 231) b.L fun x hx => by
    have b1 := putV_le7 (n := x.1) (by have := h.top x hx; omega)
    have b2 := putE_len (h.ev x hx).1
    rw [List.length_append]; omega
  unfold bytesK
  rw [e0]
  simp only [List.length_append]
  omega
theorem putR_len {e : Ev} (h : rightE e = true) : (putR e).length ≤ 225 := by
  have := putE_len h
  unfold putR; rw [List.length_cons]; omega
theorem tickR_len (n : Int) : (tickR n).length ≤ 225 := by
  have := putV_le9 n.toNat
  unfold tickR; rw [List.length_cons]; omega
theorem row_len {rd : Nat} {s : Str} (h : s.length ≤ 1024) : (rowB rd s).length ≤ 1046 := by
  have := rowB_le rd (s := s); omega
theorem text_len {rd : Nat} {l : List Str} (hl : ∀ s ∈ l, s.length ≤ 1024) : (textL rd l).length ≤ 1046 * l.length := by
  unfold textL
  exact flatLe l fun s hs => row_len (hl s hs)
structure SvOk (N : Nat) (r : R4) (b : Ct) (G : Lg) : Prop where
  f0 : r.get 0 = if G.rd = 0 then [] else rowB G.rd G.st
  z : G.rd = 0 → G.st = []
  f1 : recsB G.rd (allB (r.get 1)) = G.l
  rd : G.rd ≤ N
  st : G.st.length ≤ 16384
  l : ∀ s ∈ G.l, s.length ≤ 1024
  n : G.l.length ≤ 40
  bk : bookOf G.st G.l = some b
  ok : CtOk b
  bn : b.n ≤ N
theorem SvOk.mono {N N' : Nat} (hN : N ≤ N') {r : R4} {b : Ct} {G : Lg} (h : SvOk N r b G) : SvOk N' r b G := ⟨h.f0, h.z, h.f1, Nat.le_trans h.rd hN, h.st, h.l, h.n, h.bk, h.ok, Nat.le_trans h.bn hN⟩
structure Good (P : Ct → Prop) (N : Nat) (b : Ct) (G : Lg) (D : Dk) : Prop where
  sv : SvOk N D.now b G
  f1 : D.now.get 1 = textL G.rd G.l
  g : DkG D
  W : D.W.length ≤ 3 * N
  pb : P b
  cr : ∀ left, ∃ b' G', P b' ∧ SvOk N (crashL D.W D.kept left) b' G'
theorem Good.mono {P Q : Ct → Prop} {N N' : Nat} (hN : N ≤ N') (hP : ∀ b, P b → Q b) {b : Ct} {G : Lg} {D : Dk} (h : Good P N b G D) : Good Q N' b G D :=
  ⟨h.sv.mono hN, h.f1, h.g, by have := h.W; omega, hP _ h.pb, fun left => by obtain ⟨b', G', h1, h2⟩ := h.cr left; exact ⟨b', G', hP _ h1, h2.mono hN⟩⟩
theorem Good.z : Good (fun b => b = ct0) 0 ct0 ⟨0, [], [], 0⟩ dk0 := by
  have hs : SvOk 0 r4z ct0 ⟨0, [], [], 0⟩ := ⟨rfl, fun _ => rfl, rfl, Nat.le_refl _, Nat.zero_le _, by simp, Nat.zero_le _, rfl, CtOk.nil, Nat.le_refl _⟩
  exact ⟨hs, rfl, DkG.z, Nat.zero_le _, rfl, fun _ => ⟨ct0, _, rfl, hs⟩⟩
theorem crash_put {D : Dk} (h : DkG D) {x : Wr} (hx : x.f < 4) (left : Nat) : (∃ l, crashL (putK D x).W (putK D x).kept left = crashL D.W D.kept l) ∨ crashL (putK D x).W (putK D x).kept left = D.now ∨ ∃ n, n ≤ x.units ∧ crashL (putK D x).W (putK D x).kept left = x.doW D.now n := by
  have hA : ∀ y ∈ D.W, y.f < 4 := fun y hy => (h.ok.w y hy).1
  show (∃ l, crashL (D.W ++ [x]) D.kept left = _) ∨ crashL (D.W ++ [x]) D.kept left = _ ∨ ∃ n, n ≤ x.units ∧ crashL (D.W ++ [x]) D.kept left = _
  rw [crashL_app _ _ _ _ hA (by simpa using hx)]
  split
  · exact .inl ⟨left, rfl⟩
  · simp only [crashL]
    split
    · exact .inr (.inl rfl)
    · exact .inr (.inr ⟨_, Nat.min_le_right _ _, rfl⟩)
theorem Good.append {P Q : Ct → Prop} {N : Nat} (hN : N ≤ 900000) {b c : Ct} {G : Lg} {D : Dk} {s : Str} (h : Good P N b G D) (hP : ∀ b, P b → Q b) (hc : Q c) (hk : CtOk c) (hcn : c.n ≤ N) (hl : G.l.length < 40) (hs : s.length ≤ 1024) (hr : redoK b s = some c) (hW : D.W.length + 1 ≤ 3 * N) :
    (appendLg G D s).1 = 0 ∧ Good Q N c (appendLg G D s).2.1 (appendLg G D s).2.2 := by
  have hrd := h.sv.rd
  have hll := h.sv.l
  have h1 := row_len (rd := G.rd) hs
  have h2 := text_len (rd := G.rd) hll
  have ha : appendK D 1 (rowB G.rd s) = (0, putK D ⟨false, 1, rowB G.rd s⟩) := by unfold appendK; rw [h.f1, if_neg (by omega)]
  have hl2 : ∀ x ∈ G.l ++ [s], x.length ≤ 1024 := fun x hx => by
    rcases List.mem_append.1 hx with hx | hx
    · exact hll x hx
    · simp at hx; subst hx; exact hs
  have e1 : textL G.rd G.l ++ rowB G.rd s = textL G.rd (G.l ++ [s]) := by rw [textL_app]; simp [textL]
  have he : appendLg G D s = (0, { G with l := G.l ++ [s] }, putK D ⟨false, 1, rowB G.rd s⟩) := by
    unfold appendLg; rw [if_neg (by omega), ha, if_neg (by simp)]
  have hdo : ∀ n, ((⟨false, 1, rowB G.rd s⟩ : Wr).doW D.now n).get 0 = D.now.get 0 ∧ ((⟨false, 1, rowB G.rd s⟩ : Wr).doW D.now n).get 1 = textL G.rd G.l ++ (rowB G.rd s).take n := fun n => by
    rw [doW_get (x := ⟨false, 1, rowB G.rd s⟩) (by simp), doW_get (x := ⟨false, 1, rowB G.rd s⟩) (by simp)]
    exact ⟨rfl, by rw [← h.f1]; rfl⟩
  have hnow : (putK D ⟨false, 1, rowB G.rd s⟩).now = (⟨false, 1, rowB G.rd s⟩ : Wr).doW D.now (rowB G.rd s).length := putK_now _ _
  have hfull : SvOk N ((⟨false, 1, rowB G.rd s⟩ : Wr).doW D.now (rowB G.rd s).length) c { G with l := G.l ++ [s] } := by
    refine ⟨(hdo _).1.trans h.sv.f0, h.sv.z, ?_, hrd, h.sv.st, hl2, by simp; omega, bookOf_snoc h.sv.bk hr, hk, hcn⟩
    rw [(hdo _).2, List.take_length, e1, recs_text (by omega) hl2, if_pos rfl]
  rw [he]
  refine ⟨rfl, ?_, ?_, ?_, ?_, hc, fun left => ?_⟩
  · rw [hnow]; exact hfull
  · rw [hnow, (hdo _).2, List.take_length, e1]
  · have := h.g.append (f := 1) (by decide) (rowB G.rd s); rw [ha] at this; exact this
  · simp [putK]; omega
  · rcases crash_put h.g (x := ⟨false, 1, rowB G.rd s⟩) (by simp) left with ⟨l, e⟩ | e | ⟨n, hn, e⟩
    · obtain ⟨b', G', q1, q2⟩ := h.cr l
      exact ⟨b', G', hP _ q1, by dsimp only; rw [e]; exact q2⟩
    · exact ⟨b, G, hP _ h.pb, by dsimp only; rw [e]; exact h.sv⟩
    · have hn : n ≤ (rowB G.rd s).length := hn
      by_cases h3 : n = (rowB G.rd s).length
      · subst h3
        exact ⟨c, _, hc, by dsimp only; rw [e]; exact hfull⟩
      · refine ⟨b, G, hP _ h.pb, ?_⟩
        dsimp only
        rw [e]
        refine ⟨(hdo _).1.trans h.sv.f0, h.sv.z, ?_, hrd, h.sv.st, hll, by omega, h.sv.bk, h.sv.ok, h.sv.bn⟩
        rw [(hdo _).2, recs_cut (by omega) hll hs (by omega)]
theorem Good.check {P : Ct → Prop} {N N' : Nat} (hN : N ≤ 900000) (hN' : N + 1 ≤ N') {b : Ct} {G : Lg} {D : Dk} (h : Good P N b G D) (hW : D.W.length + 2 ≤ 3 * N') :
    Good P N' b (checkLg G D (bytesK b)).2.1 (checkLg G D (bytesK b)).2.2 ∧ (checkLg G D (bytesK b)).2.1.l = [] := by
  have hrd := h.sv.rd
  have hbn := h.sv.bn
  have hll := h.sv.l
  have hbl := bytes_len h.sv.ok (by omega)
  have h1 := rowB_le (G.rd + 1) (s := bytesK b)
  have hbk : bookOf (bytesK b) [] = some b := by
    have hne : bytesK b ≠ [] := by
      intro e
      have := read_bytes h.sv.ok (by omega)
      rw [e] at this
      cases this
    unfold bookOf
    rw [if_neg hne, read_bytes h.sv.ok (by omega)]; rfl
  have ha : replaceK D 0 (rowB (G.rd + 1) (bytesK b)) = (0, putK D ⟨true, 0, rowB (G.rd + 1) (bytesK b)⟩) := by unfold replaceK; rw [if_neg (by omega)]
  have hg1 : DkG (putK D ⟨true, 0, rowB (G.rd + 1) (bytesK b)⟩) := by
    have := h.g.replace (f := 0) (by decide) (rowB (G.rd + 1) (bytesK b)); rw [ha] at this; exact this
  have hb : replaceK (putK D ⟨true, 0, rowB (G.rd + 1) (bytesK b)⟩) 1 [] = (0, putK (putK D ⟨true, 0, rowB (G.rd + 1) (bytesK b)⟩) ⟨true, 1, []⟩) := by unfold replaceK; rw [if_neg (by simp)]
  have hg2 : DkG (putK (putK D ⟨true, 0, rowB (G.rd + 1) (bytesK b)⟩) ⟨true, 1, []⟩) := by
    have := hg1.replace (f := 1) (by decide) []; rw [hb] at this; exact this
  have he : checkLg G D (bytesK b) = (0, ⟨G.rd + 1, bytesK b, [], 0⟩, putK (putK D ⟨true, 0, rowB (G.rd + 1) (bytesK b)⟩) ⟨true, 1, []⟩) := by
    unfold checkLg; rw [if_neg (by omega), ha, hb]
  have n1 : (putK D ⟨true, 0, rowB (G.rd + 1) (bytesK b)⟩).now = D.now.set 0 (rowB (G.rd + 1) (bytesK b)) := putK_now _ _
  have n2 : (putK (putK D ⟨true, 0, rowB (G.rd + 1) (bytesK b)⟩) ⟨true, 1, []⟩).now = (D.now.set 0 (rowB (G.rd + 1) (bytesK b))).set 1 [] := by rw [putK_now, n1]; rfl
  have s1 : SvOk N' (D.now.set 0 (rowB (G.rd + 1) (bytesK b))) b ⟨G.rd + 1, bytesK b, [], 0⟩ := by
    refine ⟨by rw [R4.get_set _ (by decide)]; simp, by simp, ?_, by dsimp only; omega, hbl, by simp, by simp, hbk, h.sv.ok, by omega⟩
    have e : (D.now.set 0 (rowB (G.rd + 1) (bytesK b))).get 1 = textL G.rd G.l := by rw [R4.get_set _ (by decide), ← h.f1]; rfl
    rw [e, recs_text (by omega) hll, if_neg (by simp)]
  have s2 : SvOk N' ((D.now.set 0 (rowB (G.rd + 1) (bytesK b))).set 1 []) b ⟨G.rd + 1, bytesK b, [], 0⟩ := by
    refine ⟨by rw [R4.get_set _ (by decide), R4.get_set _ (by decide)]; simp, by simp, ?_, by dsimp only; omega, hbl, by simp, by simp, hbk, h.sv.ok, by omega⟩
    rw [R4.get_set _ (by decide)]; rfl
  rw [he]
  refine ⟨⟨?_, ?_, hg2, by simp [putK]; omega, h.pb, fun left => ?_⟩, rfl⟩
  · rw [n2]; exact s2
  · rw [n2, R4.get_set _ (by decide)]; rfl
  · dsimp only
    have d1 : ∀ n, (⟨true, 0, rowB (G.rd + 1) (bytesK b)⟩ : Wr).doW D.now n = D.now ∨ (⟨true, 0, rowB (G.rd + 1) (bytesK b)⟩ : Wr).doW D.now n = D.now.set 0 (rowB (G.rd + 1) (bytesK b)) := fun n => by
      unfold Wr.doW; simp only [if_true]; split
      · exact .inr rfl
      · exact .inl rfl
    have d2 : ∀ n, (⟨true, 1, []⟩ : Wr).doW (D.now.set 0 (rowB (G.rd + 1) (bytesK b))) n = D.now.set 0 (rowB (G.rd + 1) (bytesK b)) ∨ (⟨true, 1, []⟩ : Wr).doW (D.now.set 0 (rowB (G.rd + 1) (bytesK b))) n = (D.now.set 0 (rowB (G.rd + 1) (bytesK b))).set 1 [] := fun n => by
      unfold Wr.doW; simp only [if_true]; split
      · exact .inr rfl
      · exact .inl rfl
    rcases crash_put hg1 (x := ⟨true, 1, []⟩) (by simp) left with ⟨l, e⟩ | e | ⟨n, -, e⟩
    · rw [e]
      rcases crash_put h.g (x := ⟨true, 0, rowB (G.rd + 1) (bytesK b)⟩) (by simp) l with ⟨l, e⟩ | e | ⟨n, -, e⟩
      · rw [e]
        obtain ⟨b', G', q1, q2⟩ := h.cr l
        exact ⟨b', G', q1, q2.mono (by omega)⟩
      · rw [e]; exact ⟨b, G, h.pb, h.sv.mono (by omega)⟩
      · rw [e]
        rcases d1 n with e | e
        · rw [e]; exact ⟨b, G, h.pb, h.sv.mono (by omega)⟩
        · rw [e]; exact ⟨b, _, h.pb, s1⟩
    · rw [e, n1]; exact ⟨b, _, h.pb, s1⟩
    · rw [e, n1]
      rcases d2 n with e | e
      · rw [e]; exact ⟨b, _, h.pb, s1⟩
      · rw [e]; exact ⟨b, _, h.pb, s2⟩
theorem Good.note {P Q : Ct → Prop} {N : Nat} (hN : N ≤ 800000) {b c : Ct} {G : Lg} {D : Dk} {s : Str} (h : Good P N b G D) (hP : ∀ b, P b → Q b) (hc : Q c) (hk : CtOk c) (hcn : c.n ≤ N + 1) (hs : s.length ≤ 1024) (hr : redoK b s = some c) :
    Good Q (N + 1) c (noteK b G D s).1 (noteK b G D s).2 := by
  have hW := h.W
  unfold noteK
  by_cases h1 : 40 ≤ G.l.length
  · rw [if_pos h1]
    obtain ⟨g1, g2⟩ := h.check (N' := N + 1) (by omega) (Nat.le_refl _) (by omega)
    have hw1 := checkLg_W G D (bytesK b)
    exact (g1.append (by omega) hP hc hk hcn (by rw [g2]; simp) hs hr (by omega)).2
  · rw [if_neg h1]
    exact ((h.mono (N' := N + 1) (by omega) fun _ q => q).append (by omega) hP hc hk hcn (by omega) hs hr (by omega)).2
theorem Good.put {P Q : Ct → Prop} {N : Nat} (hN : N ≤ 800000) {b : Ct} {G : Lg} {D : Dk} (h : Good P N b G D) (e : Ev) (hP : ∀ b, P b → Q b) (hc : Q (putBk b G D e).2.1) : Good Q (N + 1) (putBk b G D e).2.1 (putBk b G D e).2.2.1 (putBk b G D e).2.2.2 := by
  unfold putBk at hc ⊢
  by_cases hw : whyK b e ≠ 0
  · rw [if_pos hw] at hc ⊢; exact h.mono (by omega) hP
  · rw [if_neg hw] at hc ⊢
    have hw := Decidable.not_not.1 hw
    have hr := (why_zero hw).1
    have hp := putR_len hr
    have := h.sv.bn
    exact h.note hN hP hc (h.sv.ok.add hw) (by simp only [addK]; omega) (by omega) (redo_put hw)
theorem Good.tick {P Q : Ct → Prop} {N : Nat} (hN : N ≤ 800000) {b : Ct} {G : Lg} {D : Dk} (h : Good P N b G D) (n : Int) (hP : ∀ b, P b → Q b) (hc : Q (tickBk b G D n).2.1) : Good Q (N + 1) (tickBk b G D n).2.1 (tickBk b G D n).2.2.1 (tickBk b G D n).2.2.2 := by
  unfold tickBk at hc ⊢
  by_cases hw : n < 1 ∨ 1000 < n
  · rw [if_pos hw] at hc ⊢; exact h.mono (by omega) hP
  · rw [if_neg hw] at hc ⊢
    have hp := tickR_len n
    have := h.sv.bn
    exact h.note hN hP hc (h.sv.ok.age n) (by simp only [ageK]; omega) (by omega) (redo_tick (by omega) (by omega))
theorem Good.sync {P : Ct → Prop} {N : Nat} {b : Ct} {G : Lg} {D : Dk} (h : Good P N b G D) : Good (fun c => c = b) N b (syncLg G) (syncK D) := by
  have hs : SvOk N D.now b (syncLg G) := ⟨h.sv.f0, h.sv.z, h.sv.f1, h.sv.rd, h.sv.st, h.sv.l, h.sv.n, h.sv.bk, h.sv.ok, h.sv.bn⟩
  exact ⟨hs, h.f1, h.g.sync, Nat.zero_le _, rfl, fun left => ⟨b, _, rfl, hs⟩⟩
end Go.Proofs.YtjpjebfodhbdfaaGreatDoor
namespace Go.Proofs.YtjpjebfodhbdfaaGreatDoor
open Go
structure OpB where
  k : Int
  e : Ev
  n : Int
abbrev enO (x : OpB) : List Value := [.int .i64 x.k, .int .i64 x.e.o, .int .i64 x.e.s, sv x.e.t, sv x.e.l, .int .i64 x.e.e, .int .i64 x.n]
theorem enO_len (x : OpB) : (enO x).length = 6 + 1 := rfl
abbrev opK : List CK := [.i .i64, .i .i64, .i .i64, .s, .s, .i .i64, .i .i64]
abbrev mkK : List CK := [.i .i64, .i .i64]
theorem argOps {W : World} {v : Value} (h : ArgF W opK v) : ∃ l : List OpB, Rd 7 enO v l (whole W) := by
  obtain ⟨a, len, cap, rfl, hc, h⟩ := h
  rcases h with rfl | ⟨b, o, L, U, fz, rfl, hm, hf⟩
  · exact ⟨[], ⟨a, cap, rfl, hc, .inl rfl⟩⟩
  · obtain ⟨l, h1, -, h3⟩ := choose_elems (k := 7) (en := enO) (Q := fun _ => True) (L := L) (o := o) (len := len) fun i hi => by
      have hf := hf i hi
      obtain ⟨_, e0, n0, rfl, -⟩ := hf 0 _ rfl
      obtain ⟨_, e1, n1, rfl, -⟩ := hf 1 _ rfl
      obtain ⟨_, e2, n2, rfl, -⟩ := hf 2 _ rfl
      obtain ⟨_, e3, n3, rfl, -⟩ := hf 3 _ rfl
      obtain ⟨_, e4, n4, rfl, -⟩ := hf 4 _ rfl
      obtain ⟨_, e5, n5, rfl, -⟩ := hf 5 _ rfl
      obtain ⟨_, e6, n6, rfl, -⟩ := hf 6 _ rfl
      refine ⟨⟨n0, ⟨n1, n2, n3, n4, n5⟩, n6⟩, trivial, take_cells (enO ⟨n0, ⟨n1, n2, n3, n4, n5⟩, n6⟩) _ fun j x hj => ?_⟩
      match j, hj with
      | 0, hj => cases hj; exact e0
      | 1, hj => cases hj; exact e1
      | 2, hj => cases hj; exact e2
      | 3, hj => cases hj; exact e3
      | 4, hj => cases hj; exact e4
      | 5, hj => cases hj; exact e5
      | 6, hj => cases hj; exact e6
    subst h1
    exact ⟨l, ⟨_, cap, rfl, hc, .inr ⟨b, o, L, U, fz, rfl, whole_mem.2 hm, h3⟩⟩⟩
theorem argMks {W : World} {v : Value} (h : ArgF W mkK v) : ∃ l : List MkT, Rd 2 enM v l (whole W) := by
  obtain ⟨a, len, cap, rfl, hc, h⟩ := h
  rcases h with rfl | ⟨b, o, L, U, fz, rfl, hm, hf⟩
  · exact ⟨[], ⟨a, cap, rfl, hc, .inl rfl⟩⟩
  · obtain ⟨l, h1, -, h3⟩ := choose_elems (k := 2) (en := enM) (Q := fun _ => True) (L := L) (o := o) (len := len) fun i hi => by
      have hf := hf i hi
      obtain ⟨_, e0, n0, rfl, -⟩ := hf 0 _ rfl
      obtain ⟨_, e1, n1, rfl, -⟩ := hf 1 _ rfl
      refine ⟨(n0, n1), trivial, take_cells (enM (n0, n1)) _ fun j x hj => ?_⟩
      match j, hj with
      | 0, hj => cases hj; exact e0
      | 1, hj => cases hj; exact e1
    subst h1
    exact ⟨l, ⟨_, cap, rfl, hc, .inr ⟨b, o, L, U, fz, rfl, whole_mem.2 hm, h3⟩⟩⟩
def cutO (x : OpB) : OpB := ⟨x.k, ⟨x.e.o, x.e.s, x.e.t.take 150, x.e.l.take 150, x.e.e⟩, x.n⟩
def cutOs (l : List OpB) : List OpB := (l.take 100).map cutO
theorem cutOs_len (l : List OpB) : (cutOs l).length ≤ 100 := by simp [cutOs]; omega
theorem cutOs_mem {l : List OpB} : ∀ x ∈ cutOs l, x.e.t.length ≤ 150 ∧ x.e.l.length ≤ 150 := fun x hx => by
  obtain ⟨y, -, rfl⟩ := List.mem_map.1 hx
  simp only [cutO, List.length_take]
  omega
theorem min150 (n : Nat) : (if (150 : Int) < (n : Int) then 150 else (n : Int)) = ((min n 150 : Nat) : Int) := by split <;> omega
theorem take_min150 (l : Str) : (l.drop 0).take (min l.length 150 - 0) = l.take 150 := by
  rw [List.drop_zero, Nat.sub_zero]
  rcases Nat.le_total l.length 150 with h | h
  · rw [Nat.min_eq_left h, List.take_length, List.take_of_length_le h]
  · rw [Nat.min_eq_right h]
theorem take_one {α : Type} {l : List α} {i : Nat} {x : α} (h : l[i]? = some x) : l.take (i + 1) = l.take i ++ [x] := by rw [List.take_add_one, h]; rfl
theorem cut_spec {v : Value} {l : List OpB} {c : List Blk} (hr : Rd 7 enO v l c) : FN Tryz.prog 9 [v] [c] (fun u h => ∃ row, IsSl 43 7 u ((cutOs l).flatMap enO) row ∧ h = [row, c]) := by
  obtain ⟨a, cap, rfl, -, hr⟩ := hr
  refine FN.intro 48 [(0, .slice a l.length cap)] Tryz.func9 rfl (enters Tryz.func9 (by kernel_rfl) rfl) Tryz.ntmps9 rfl rfl ?_
  refine WP.seq <| WP.region <| v0 (S0.assign rfl) rfl <| vE <| WP.seq <| WP.region <| vnv (S1.buildSlice rfl (qs := []) rfl rfl) rfl fun b6 => v0 (S0.assign rfl) rfl <| vE <| WP.seq <| WP.seq <| WP.region <| v0 (S0.assign rfl) rfl <| vE <| WP.block <| ?_
  refine WP.loop (fun st : Nat × Value × List Blk => st.1 ≤ l.length ∧ st.1 ≤ 100 ∧ IsSl 43 7 st.2.1 (((l.take st.1).map cutO).flatMap enO) st.2.2) (fun st : Nat × Value × List Blk => [(0, .slice a l.length cap), (3, st.2.1), (4, .int .i64 (st.1 : Int))]) (fun st : Nat × Value × List Blk => [st.2.2, c]) (fun st : Nat × Value × List Blk => l.length - st.1) ((0, _, [(b6, .cells ⟨[]⟩ 43 (0, 0))])) (⟨Nat.zero_le _, Nat.zero_le _, IsSl.row (n := 0) (c := 0) (l := []) (sp := []) rfl rfl (Nat.le_refl _)⟩) ⟨rfl, rfl, rfl, trivial⟩ ⟨_, (take1 at0 (take1 at0 take0))⟩ (fun st hinv => ?_)
  obtain ⟨i, ov, orow⟩ := st
  obtain ⟨hi, hi2, hosl⟩ := hinv
  dsimp only at hi hi2 hosl ⊢
  refine WP.seq <| WP.seq <| WP.region <| v0 (S0.move rfl) rfl <| v0 (S0.move rfl) rfl <| v0 (S0.lenSl rfl) rfl <| v0 (S0.cmp rfl rfl rfl) rfl <| v0 (S0.move rfl) rfl <| ?_
  first | refine csP (t := 11) rfl (fun h1 => ?_) (fun h1 => ?_) | refine csN (t := 11) rfl (fun h1 => ?_) (fun h1 => ?_) | refine cs (t := 11) rfl (fun h1 => ?_) (fun h1 => ?_)
  · have hlt : i < l.length := by omega
    rcases hr with e | ⟨b, o, GL, U, fz, rfl, hmem, hel⟩
    · rw [e] at hlt; simp at hlt
    have : HasC c b (.cells ⟨GL⟩ U fz) := ⟨hmem⟩
    have hx : l[i]? = some l[i] := by simp [hlt]
    generalize l[i] = x at hx
    obtain ⟨x0, ⟨x1, x2, x3, x4, x5⟩, x6⟩ := x
    have hele : (GL.drop (o + i * 7)).take 7 = [.int .i64 x0, .int .i64 x1, .int .i64 x2, sv x3, sv x4, .int .i64 x5, .int .i64 x6] := hel i _ hx
    have htk := take_one hx
    refine gT rfl <| v0 (S0.move rfl) rfl <| gT rfl <| v0 (S0.cmp rfl rfl rfl) rfl <| v0 (S0.pickT rfl rfl) rfl <| vE <| ?_
    first | refine WP.condP rfl (fun h2 => ?_) (fun h2 => ?_) | refine WP.condN rfl (fun h2 => ?_) (fun h2 => ?_) | refine WP.cond rfl (fun h2 => ?_) (fun h2 => ?_)
    · refine WP.skip <| WP.seq <| WP.block <| WP.seq <| WP.region <| v0 (S0.move rfl) rfl <| v0 (S0.move rfl) rfl <| ?_
      refine v0 (S0.indexO (k := 7) rfl rfl hlt) rfl <| ?_
      refine v0 (S0.loadA rfl hele rfl) rfl <| ?_
      refine vn (S1.alloc) rfl fun b5 => vs (S1.storeA rfl rfl rfl) <| vE <| WP.seq <| WP.region <| v0 (S0.fieldAddr rfl) rfl <| v0 (S0.fieldAddr rfl) rfl <| v0 (S0.load rfl rfl) rfl <| v0 (S0.fieldAddr rfl) rfl <| v0 (S0.fieldAddr rfl) rfl <| v0 (S0.load rfl rfl) rfl <| v0 (S0.lenSt rfl) rfl <| v0 (S0.min2 rfl rfl rfl) rfl <| ?_
      rw [min150]
      refine v0 (S0.sliceSt (i := 0) (j := min x3.length 150) rfl rfl rfl ⟨Nat.zero_le _, by omega⟩) rfl <| ?_
      rw [take_min150]
      refine v0 (S0.fieldAddr rfl) rfl <| v0 (S0.fieldAddr rfl) rfl <| vs (S1.store rfl rfl (by first | rfl | exact IsSl.cv (by assumption))) <| vE <| WP.seq <| WP.region <| v0 (S0.fieldAddr rfl) rfl <| v0 (S0.fieldAddr rfl) rfl <| v0 (S0.load rfl rfl) rfl <| v0 (S0.fieldAddr rfl) rfl <| v0 (S0.fieldAddr rfl) rfl <| v0 (S0.load rfl rfl) rfl <| v0 (S0.lenSt rfl) rfl <| v0 (S0.min2 rfl rfl rfl) rfl <| ?_
      rw [min150]
      refine v0 (S0.sliceSt (i := 0) (j := min x4.length 150) rfl rfl rfl ⟨Nat.zero_le _, by omega⟩) rfl <| ?_
      rw [take_min150]
      refine v0 (S0.fieldAddr rfl) rfl <| v0 (S0.fieldAddr rfl) rfl <| vs (S1.store rfl rfl (by first | rfl | exact IsSl.cv (by assumption))) <| vE <| WP.region <| v0 (S0.move rfl) rfl <| v0 (S0.loadAL rfl) rfl <| vnv (S1.buildSlice rfl (qs := [(0, _)]) rfl rfl) rfl fun b45 => ?_
      refine ve (S1.appendL rfl hosl rfl rfl (atS (atS at0)) rfl rfl (by rw [flat_len enO_len]; simp; omega)) rfl ?_
      rintro v2 _ ⟨row2, hsl2, rfl⟩
      have hsl3 : IsSl 43 7 v2 (((l.take (i + 1)).map cutO).flatMap enO) row2 := by
        rw [htk, List.map_append, List.flatMap_append]
        simpa [cutO] using hsl2
      refine v0 (S0.assign rfl) rfl <| vE <| WP.region <| v0 (S0.move rfl) rfl <| v0 (S0.ari rfl rfl rfl (wrap_i64 (by omega))) rfl <| v0 (S0.assign rfl) rfl <| vE <| ?_
      exact ⟨(i + 1, v2, row2), (by first | exact ⟨hlt, by omega, hsl3⟩ | (dsimp only; exact ⟨hlt, by omega, hsl3⟩)), (show l.length - (i + 1) < l.length - i by omega), ⟨⟨rfl, rfl, rfl, trivial⟩, rfl, rfl⟩, ⟨_, (take1 at0 (take1 (atS (atS at0)) take0))⟩⟩
    · refine WP.exit <| WP.seq <| WP.region <| v0 (S0.move rfl) rfl <| v0 (S0.assign rfl) rfl <| vE <| WP.ret <| ?_
      refine r1 rfl rfl ?_
      exact ⟨orow, by rw [cutOs, ← show i = 100 by omega]; exact hosl, rfl⟩
  · refine gF rfl rfl <| gF rfl rfl <| v0 (S0.pickF rfl rfl) rfl <| vE <| WP.condF rfl <| WP.exit <| WP.seq <| WP.region <| v0 (S0.move rfl) rfl <| v0 (S0.assign rfl) rfl <| vE <| WP.ret <| ?_
    refine r1 rfl rfl ?_
    exact ⟨orow, by rw [cutOs, List.take_of_length_le (by omega)]; rw [List.take_of_length_le (by omega)] at hosl; exact hosl, rfl⟩
end Go.Proofs.YtjpjebfodhbdfaaGreatDoor
namespace Go.Proofs.YtjpjebfodhbdfaaGreatDoor
open Go
end Go.Proofs.YtjpjebfodhbdfaaGreatDoor
namespace Go.Proofs.YtjpjebfodhbdfaaGreatDoor
open Go
theorem Good.rooms {P : Ct → Prop} {N : Nat} (hN : N ≤ 200000) {b : Ct} {G : Lg} {D : Dk} (h : Good P N b G D) : Rooms b G D := by
  have h1 := h.sv.bn
  have h2 := h.sv.rd
  have h3 := h.sv.n
  have h4 := h.W
  exact ⟨h.sv.ok.w, by omega, by omega, by omega, h.g, by omega⟩
theorem bopen_good {db : Nat} {D D' : Dk} {b : Ct} {G : Lg} {dc : List Blk} (hd : IsDisk db D dc) (hk : DkG D) (hW : D.W.length ≤ 900000) (e1 : openBk D = (0, some (b, G), D')) (e3 : (openLg D).2.1.st = [] ∨ ∃ B, readK (openLg D).2.1.st = some B) :
    FN Tryz.prog 11 [ptrB db] [dc] (fun u h => ∃ bb lb cc lc dc', IsCt bb lb b cc ∧ IsLog lb db G lc ∧ IsDisk db D' dc' ∧ u = .tuple ⟨[ptrB bb, .int .i64 0]⟩ ∧ h = [cc, lc, dc']) :=
  (bopen_spec hd hk hW fun _ => e3).mono fun u h hq => by
    unfold OpenP at hq
    rw [e1] at hq
    rcases hq with ⟨hne, -⟩ | ⟨-, b', G', bb, lb, cc, lc, dc', he, -, -, -, hc, hl, hd', rfl, rfl⟩
    · exact absurd rfl hne
    · cases he
      exact ⟨bb, lb, cc, lc, dc', hc, hl, hd', rfl, rfl⟩
theorem bopen_bad {db : Nat} {D D' : Dk} {e : Int} {dc : List Blk} (hd : IsDisk db D dc) (hk : DkG D) (hW : D.W.length ≤ 900000) (e1 : openBk D = (e, none, D')) (hne : e ≠ 0) (e3 : (openLg D).2.1.st = [] ∨ ∃ B, readK (openLg D).2.1.st = some B) :
    FN Tryz.prog 11 [ptrB db] [dc] (fun u h => ∃ dc', u = .tuple ⟨[.pointer none, .int .i64 e]⟩ ∧ h = [dc']) :=
  (bopen_spec hd hk hW fun _ => e3).mono fun u h hq => by
    unfold OpenP at hq
    rw [e1] at hq
    rcases hq with ⟨-, rfl, dc', -, rfl⟩ | ⟨e0, -⟩
    · exact ⟨dc', rfl, rfl⟩
    · exact absurd e0 hne
abbrev g0 : Lg := ⟨0, [], [], 0⟩
abbrev ex : Ev := ⟨1, 5, [97], [], 3⟩
abbrev ey : Ev := ⟨1, 7, [98], [], 1⟩
abbrev ez : Ev := ⟨1, 9, [97], [], 0⟩
abbrev b1 : Ct := ⟨[(1, ex)], [(1, 5)], 1⟩
abbrev b2 : Ct := ⟨[(1, ex), (2, ey)], [(1, 7)], 2⟩
abbrev b3 : Ct := ⟨[(1, ⟨1, 5, [97], [], 2⟩)], [(1, 7)], 2⟩
theorem o0 : openBk dk0 = (0, some (ct0, g0), dk0) := by kernel_rfl
def G1 : Lg := (noteK ct0 g0 dk0 (putR ex)).1
def D1 : Dk := (noteK ct0 g0 dk0 (putR ex)).2
theorem p1 : putBk ct0 g0 dk0 ex = (0, b1, G1, D1) := by kernel_rfl
theorem p2 : putBk b1 G1 D1 ex = (11, b1, G1, D1) := by kernel_rfl
theorem p3 : putBk b1 G1 D1 ez = (1, b1, G1, D1) := by kernel_rfl
def G3 : Lg := (noteK b1 (syncLg G1) (syncK D1) (putR ey)).1
def D3 : Dk := (noteK b1 (syncLg G1) (syncK D1) (putR ey)).2
theorem p4 : putBk b1 (syncLg G1) (syncK D1) ey = (0, b2, G3, D3) := by kernel_rfl
theorem p5 : tickBk b2 G3 D3 0 = (1, b2, G3, D3) := by kernel_rfl
theorem p6 : aftV b2 1 = .tuple ⟨[.agg ⟨evB ey⟩, .int .i64 2, .bool true]⟩ := rfl
theorem p7 : missK b2 [(1, 5)] = [ey] := by kernel_rfl
def G5 : Lg := { syncLg G1 with sure := 1 }
def D5 : Dk := (openLg (crashK D3 0)).2.2
theorem p8 : openBk (crashK D3 0) = (0, some (b1, G5), D5) := by kernel_rfl
theorem p8s : (openLg (crashK D3 0)).2.1.st = [] := by kernel_rfl
def G6 : Lg := (noteK b2 G3 D3 (tickR 1)).1
def D6 : Dk := (noteK b2 G3 D3 (tickR 1)).2
theorem p9 : tickBk b2 G3 D3 1 = (0, b3, G6, D6) := by kernel_rfl
theorem p10 : aftV b3 1 = .tuple ⟨[.agg ⟨evB ev0⟩, .int .i64 0, .bool false]⟩ := rfl
def DX : Dk := (appendK dk0 1 (rowB 0 [88])).2
theorem p11 : appendK dk0 1 (rowB 0 [88]) = (0, DX) := by kernel_rfl
theorem p12 : openBk DX = (4, none, syncK DX) := by kernel_rfl
theorem p12s : (openLg DX).2.1.st = [] := by kernel_rfl
end Go.Proofs.YtjpjebfodhbdfaaGreatDoor
namespace Go.Proofs.YtjpjebfodhbdfaaGreatDoor
open Go
section
variable {P : Program} {r : Option Nat} {ops : Array Oper} {Q : Exit → Fr → Hp → Prop} {h : Hp}
def actD (ds : List Nat) (o : Oper) : Bool := actE o || ds.any fun d => o.dst == some d
theorem actD_of {ds : List Nat} {o : Oper} (h : actE o = true) : actD ds o = true := by unfold actD; rw [h]; rfl
theorem WP.drawD (ds : List Nat) {id : Nat} {f : Fr} {S he : Hp} (order : List Stp) (hm : P.follows .mixedOrders = true) (hs : Region.noSelect ops = true) (hd : noDefer ops = true)
    (hc : canon (actD ds) ops ops.size (Array.replicate ops.size false) = some order) (hp : h.flatten.Perm (S.flatten ++ he.flatten)) (H : WD P r S.flatten ops (actD ds) (Q .normal) none order f he) : WP P r (.region id ops true) Q f h := by
  have := WP.draw (id := id) order (actD ds) (fun o h => actD_of (actE_new o h)) (fun o h => actD_of (actE_fun o h)) hm hs hd hc H
  exact ⟨fun E R a w ok st => this.run E R a w ok (by rw [List.flatten_append]; exact st.perm (hp.append_right R))⟩
def canonK (eff : Oper → Bool) (ops : Array Oper) : Nat → Array Bool → Option (List Stp × Array Bool)
  | 0, listed => some ([], listed)
  | n + 1, listed =>
    match (Region.ready .any ops listed).find? fun i => ((ops[i]?).map fun o => !eff o && Region.free .any ops listed i).getD false with
    | some i => (canonK eff ops n (listed.setIfInBounds i true)).map fun q => ((i, none) :: q.1, q.2)
    | none => match Region.ready .any ops listed with
      | [] => none
      | [k] => (canonK eff ops n (listed.setIfInBounds k true)).map fun q => ((k, none) :: q.1, q.2)
      | [x, y] =>
        match pick2 ops listed x y with
        | some (i, j) => (canonK eff ops n (listed.setIfInBounds i true)).map fun q => ((i, some j) :: q.1, q.2)
        | none => none
      | _ => none
theorem canon_cut {eff : Oper → Bool} {ops : Array Oper} {m : Nat} {t : List Stp} : ∀ {k : Nat} {l l' : Array Bool} {s : List Stp}, canonK eff ops k l = some (s, l') → canon eff ops m l' = some t → canon eff ops (k + m) l = some (s ++ t)
  | 0, l, l', s, h1, h2 => by
    simp only [canonK, Option.some.injEq, Prod.mk.injEq] at h1
    obtain ⟨rfl, rfl⟩ := h1
    rw [Nat.zero_add]; exact h2
  | k + 1, l, l', s, h1, h2 => by
    have ih := @canon_cut eff ops m t k
    rw [show k + 1 + m = (k + m) + 1 by omega]
    simp only [canonK] at h1
    simp only [canon]
    have step : ∀ {i : Nat} {w : Option Nat}, (canonK eff ops k (l.setIfInBounds i true)).map (fun q => ((i, w) :: q.1, q.2)) = some (s, l') → (canon eff ops (k + m) (l.setIfInBounds i true)).map ((i, w) :: ·) = some (s ++ t) := fun {i w} h => by
      cases hq : canonK eff ops k (l.setIfInBounds i true) with
      | none => rw [hq] at h; cases h
      | some q =>
        rw [hq] at h
        simp only [Option.map_some, Option.some.injEq, Prod.mk.injEq] at h
        obtain ⟨rfl, rfl⟩ := h
        rw [ih hq h2]; rfl
    split at h1
    · rename_i i he; rw [he]; exact step h1
    · rename_i he
      rw [he]
      dsimp only at h1 ⊢
      split at h1
      · cases h1
      · rename_i k' he2; rw [he2]; exact step h1
      · rename_i x y he2
        rw [he2]
        dsimp only at h1 ⊢
        split at h1
        · rename_i i j he3; rw [he3]; exact step h1
        · cases h1
      · cases h1
def findR (i : Nat) : Code → Option (Array Oper)
  | .region j ops _ => if Nat.beq j i then some ops else none
  | .seq a b => match findR i a with | some x => some x | none => findR i b
  | .cond _ a b => match findR i a with | some x => some x | none => findR i b
  | .block _ a => findR i a
  | .loop a => findR i a
  | .scope a => findR i a
  | .rangeFunc _ _ a b => match findR i a with | some x => some x | none => findR i b
  | _ => none
def regOf (i : Nat) (f : Func) : Array Oper := match f.body with | some c => (findR i c).getD #[] | none => #[]
end
end Go.Proofs.YtjpjebfodhbdfaaGreatDoor
namespace Go.Proofs.YtjpjebfodhbdfaaGreatDoor
open Go
theorem putc {bb lb db : Nat} {b b' : Ct} {G G' : Lg} {D D' : Dk} {cc lc dc : List Blk} {E : Int} {e : Ev} (hr : Rooms b G D) (hc : IsCt bb lb b cc) (hl : IsLog lb db G lc) (hd : IsDisk db D dc) (ht : e.t.length ≤ 900000) (hel : e.l.length ≤ 900000) (he : putBk b G D e = (E, b', G', D')) : FN Tryz.prog 14 [ptrB bb, .agg ⟨evB e⟩] [cc, lc, dc]
    (fun u h => ∃ cc' lc' dc', IsCt bb lb b' cc' ∧ IsLog lb db G' lc' ∧ IsDisk db D' dc' ∧ u = .int .i64 E ∧ h = [cc', lc', dc']) :=
  (bput_spec hr hc hl hd ht hel).mono fun u h ⟨cc', lc', dc', hu, h1, h2, h3, hh⟩ => by
    rw [he] at hu h1 h2 h3; exact ⟨cc', lc', dc', h1, h2, h3, hu, hh⟩
theorem tickc {bb lb db : Nat} {b b' : Ct} {G G' : Lg} {D D' : Dk} {cc lc dc : List Blk} {E n : Int} (hr : Rooms b G D) (hc : IsCt bb lb b cc) (hl : IsLog lb db G lc) (hd : IsDisk db D dc) (he : tickBk b G D n = (E, b', G', D')) : FN Tryz.prog 16 [ptrB bb, .int .i64 n] [cc, lc, dc]
    (fun u h => ∃ cc' lc' dc', IsCt bb lb b' cc' ∧ IsLog lb db G' lc' ∧ IsDisk db D' dc' ∧ u = .int .i64 E ∧ h = [cc', lc', dc']) :=
  (btick_spec hr hc hl hd n).mono fun u h ⟨cc', lc', dc', hu, h1, h2, h3, hh⟩ => by
    rw [he] at hu h1 h2 h3; exact ⟨cc', lc', dc', h1, h2, h3, hu, hh⟩
theorem afterc {bb lb : Nat} {b : Ct} {cc : List Blk} {v : Value} (h : IsCt bb lb b cc) (ho : CtW b) {p : Int} (he : aftV b p = v) : FN Tryz.prog 22 [ptrB bb, .int .i64 p] [cc] (is v [cc]) := by
  have := bafter_spec h ho p
  rw [he] at this; exact this
theorem row_mk {b : Nat} (m : MkT) : IsSl 63 2 (.slice (some ⟨b, 0, none⟩) 1 1) ([m].flatMap enM) [(b, .cells ⟨[.int .i64 m.1, .int .i64 m.2]⟩ 63 (0, 0))] :=
  IsSl.row (E := 63) (k := 2) (b := b) (n := 1) (c := 1) (l := [m].flatMap enM) (sp := []) rfl rfl (Nat.le_refl _)
theorem row_ev {b : Nat} (e : Ev) : IsSl 41 5 (.slice (some ⟨b, 0, none⟩) 1 1) (evsB [e]) [(b, .cells ⟨evB e⟩ 41 (0, 0))] :=
  IsSl.row (E := 41) (k := 5) (b := b) (n := 1) (c := 1) (l := evsB [e]) (sp := []) rfl rfl (Nat.le_refl _)
theorem q1 : Good (fun _ => True) 1 b1 G1 D1 := by have := Good.z.put (by omega) ex (Q := fun _ => True) (fun _ _ => trivial) trivial; rw [p1] at this; exact this
theorem q2 : Good (fun c => c = b1) 1 b1 (syncLg G1) (syncK D1) := q1.sync
theorem q3 : Good (fun _ => True) 2 b2 G3 D3 := by have := q2.put (by omega) ey (Q := fun _ => True) (fun _ _ => trivial) trivial; rw [p4] at this; exact this
theorem q6 : Good (fun _ => True) 3 b3 G6 D6 := by have := q3.tick (by omega) 1 (Q := fun _ => True) (fun _ _ => trivial) trivial; rw [p9] at this; exact this
theorem gX : DkG DX := by have := DkG.z.append (f := 1) (by decide) (rowB 0 [88]); rw [p11] at this; exact this
theorem appendc {db : Nat} {c : List Blk} (h : IsDisk db dk0 c) : FN Tryz.prog 71 [ptrB db, .int .i64 1, sv (rowB 0 [88])] [c] (fun u h => ∃ c', IsDisk db DX c' ∧ h = [c']) :=
  (append_spec h DkG.z.ok (by simp) (f := 1) (by decide) (rowB 0 [88])).mono fun u h q => by
    rw [p11] at q
    obtain ⟨c', h1, -, h3⟩ := q
    exact ⟨c', h1, h3⟩
set_option maxRecDepth 1000000 in
theorem fixR_0 : canonK (actD [190]) (regOf 22 Tryz.f29) 26 (Array.replicate 101 false) = some ([(0, none), (1, none), (2, none), (3, none), (4, none), (5, none), (6, none), (7, none), (8, none), (9, none), (10, none), (11, none), (12, none), (13, none), (14, none), (15, none), (16, none), (17, none), (18, none), (19, none), (20, none), (21, none), (22, none), (23, none), (24, none), (25, none)], #[true, true, true, true, true, true, true, true, true, true, true, true, true, true, true, true, true, true, true, true, true, true, true, true, true, true, false, false, false, false, false, false, false, false, false, false, false, false, false, false, false, false, false, false, false, false, false, false, false, false, false, false, false, false, false, false, false, false, false, false, false, false, false, false, false, false, false, false, false, false, false, false, false, false, false, false, false, false, false, false, false, false, false, false, false, false, false, false, false, false, false, false, false, false, false, false, false, false, false, false, false]) := by kernel_rfl
set_option maxRecDepth 1000000 in
theorem fixR_26 : canonK (actD [190]) (regOf 22 Tryz.f29) 26 (#[true, true, true, true, true, true, true, true, true, true, true, true, true, true, true, true, true, true, true, true, true, true, true, true, true, true, false, false, false, false, false, false, false, false, false, false, false, false, false, false, false, false, false, false, false, false, false, false, false, false, false, false, false, false, false, false, false, false, false, false, false, false, false, false, false, false, false, false, false, false, false, false, false, false, false, false, false, false, false, false, false, false, false, false, false, false, false, false, false, false, false, false, false, false, false, false, false, false, false, false, false]) = some ([(26, none), (27, none), (28, none), (29, none), (30, none), (31, none), (32, none), (33, none), (34, none), (35, none), (36, none), (37, none), (38, none), (39, none), (40, none), (41, none), (43, none), (42, some 44), (44, none), (45, none), (46, none), (47, none), (48, none), (49, none), (50, none), (51, none)], #[true, true, true, true, true, true, true, true, true, true, true, true, true, true, true, true, true, true, true, true, true, true, true, true, true, true, true, true, true, true, true, true, true, true, true, true, true, true, true, true, true, true, true, true, true, true, true, true, true, true, true, true, false, false, false, false, false, false, false, false, false, false, false, false, false, false, false, false, false, false, false, false, false, false, false, false, false, false, false, false, false, false, false, false, false, false, false, false, false, false, false, false, false, false, false, false, false, false, false, false, false]) := by kernel_rfl
set_option maxRecDepth 1000000 in
theorem fixR_52 : canonK (actD [190]) (regOf 22 Tryz.f29) 26 (#[true, true, true, true, true, true, true, true, true, true, true, true, true, true, true, true, true, true, true, true, true, true, true, true, true, true, true, true, true, true, true, true, true, true, true, true, true, true, true, true, true, true, true, true, true, true, true, true, true, true, true, true, false, false, false, false, false, false, false, false, false, false, false, false, false, false, false, false, false, false, false, false, false, false, false, false, false, false, false, false, false, false, false, false, false, false, false, false, false, false, false, false, false, false, false, false, false, false, false, false, false]) = some ([(52, none), (53, none), (54, none), (55, none), (56, none), (57, none), (58, none), (59, none), (60, none), (61, none), (62, none), (63, none), (64, none), (65, none), (66, none), (67, none), (68, none), (69, none), (70, none), (71, none), (72, none), (73, none), (74, none), (75, none), (76, none), (78, none)], #[true, true, true, true, true, true, true, true, true, true, true, true, true, true, true, true, true, true, true, true, true, true, true, true, true, true, true, true, true, true, true, true, true, true, true, true, true, true, true, true, true, true, true, true, true, true, true, true, true, true, true, true, true, true, true, true, true, true, true, true, true, true, true, true, true, true, true, true, true, true, true, true, true, true, true, true, true, false, true, false, false, false, false, false, false, false, false, false, false, false, false, false, false, false, false, false, false, false, false, false, false]) := by kernel_rfl
set_option maxRecDepth 1000000 in
theorem fixR_78 : canon (actD [190]) (regOf 22 Tryz.f29) 23 (#[true, true, true, true, true, true, true, true, true, true, true, true, true, true, true, true, true, true, true, true, true, true, true, true, true, true, true, true, true, true, true, true, true, true, true, true, true, true, true, true, true, true, true, true, true, true, true, true, true, true, true, true, true, true, true, true, true, true, true, true, true, true, true, true, true, true, true, true, true, true, true, true, true, true, true, true, true, false, true, false, false, false, false, false, false, false, false, false, false, false, false, false, false, false, false, false, false, false, false, false, false]) = some [(77, some 79), (79, none), (80, none), (81, none), (82, none), (83, none), (84, none), (85, none), (86, none), (87, none), (88, none), (89, none), (90, none), (91, none), (92, none), (93, none), (94, none), (95, none), (96, none), (97, none), (98, none), (99, none), (100, none)] := by kernel_rfl
theorem fixR_sz : (regOf 22 Tryz.f29).size = 101 := by kernel_rfl
theorem fixR : canon (actD [190]) (regOf 22 Tryz.f29) (regOf 22 Tryz.f29).size (Array.replicate (regOf 22 Tryz.f29).size false) = some [(0, none), (1, none), (2, none), (3, none), (4, none), (5, none), (6, none), (7, none), (8, none), (9, none), (10, none), (11, none), (12, none), (13, none), (14, none), (15, none), (16, none), (17, none), (18, none), (19, none), (20, none), (21, none), (22, none), (23, none), (24, none), (25, none), (26, none), (27, none), (28, none), (29, none), (30, none), (31, none), (32, none), (33, none), (34, none), (35, none), (36, none), (37, none), (38, none), (39, none), (40, none), (41, none), (43, none), (42, some 44), (44, none), (45, none), (46, none), (47, none), (48, none), (49, none), (50, none), (51, none), (52, none), (53, none), (54, none), (55, none), (56, none), (57, none), (58, none), (59, none), (60, none), (61, none), (62, none), (63, none), (64, none), (65, none), (66, none), (67, none), (68, none), (69, none), (70, none), (71, none), (72, none), (73, none), (74, none), (75, none), (76, none), (78, none), (77, some 79), (79, none), (80, none), (81, none), (82, none), (83, none), (84, none), (85, none), (86, none), (87, none), (88, none), (89, none), (90, none), (91, none), (92, none), (93, none), (94, none), (95, none), (96, none), (97, none), (98, none), (99, none), (100, none)] := by rw [fixR_sz]; exact canon_cut fixR_0 (canon_cut fixR_26 (canon_cut fixR_52 (fixR_78)))
set_option maxRecDepth 100000 in
set_option maxHeartbeats 4000000 in
theorem fixed_spec : FN Tryz.prog 29 [] [] (is (.bool true) []) := by
  refine FN.intro 193 [] Tryz.func29 rfl (enters Tryz.func29 (by kernel_rfl) rfl) Tryz.ntmps29 rfl rfl ?_
  refine WP.seq <| WP.region <| v0 (S0.assign rfl) rfl <| vE <| WP.seq <| WP.region <| ?_
  refine vc (S1.callF rfl (new_spec) take0) rfl ?_
  rintro _ _ ⟨db, dc0, rfl, hd0, rfl⟩
  refine app ?_
  refine v0 (S0.assign rfl) rfl <| vE <| WP.seq <| WP.region <| v0 (S0.move rfl) rfl <| ?_
  refine vc (S1.callF rfl (bopen_good hd0 DkG.z (by simp) o0 (.inl rfl)) (take1 at0 take0)) rfl ?_
  rintro _ _ ⟨bb, lb, cc0, lc0, dc1, hc0, hl0, hd1, rfl, rfl⟩
  refine app ?_
  refine v0 (S0.move rfl) rfl <| v0 (S0.extract rfl rfl) rfl <| v0 (S0.extract rfl rfl) rfl <| v0 (S0.assign rfl) rfl <| v0 (S0.assign rfl) rfl <| vE <| WP.seq <| WP.seq <| WP.region <| v0 (S0.move rfl) rfl <| v0 (S0.nilP rfl rfl rfl rfl) rfl <| v0 (S0.move rfl) rfl <| ?_
  refine csFh (t := 33) rfl (rfl) ?_
  refine gT rfl <| v0 (S0.move rfl) rfl <| gT rfl <| v0 (S0.cmp rfl rfl rfl) rfl <| v0 (S0.pickF rfl rfl) rfl <| vE <| ?_
  refine WP.condFh rfl (rfl) ?_
  refine WP.skip <| WP.seq <| WP.region <| v0 (S0.build rfl (qs := [(0, _), (1, _), (2, _), (4, _)]) rfl) rfl <| vn (S1.alloc) rfl fun b4 => vs (S1.storeA rfl rfl rfl) <| vE <| WP.seq <| WP.region <| v0 (S0.build rfl (qs := [(0, _), (1, _), (2, _), (4, _)]) rfl) rfl <| vn (S1.alloc) rfl fun b5 => vs (S1.storeA rfl rfl rfl) <| vE <| WP.seq <| WP.drawP [(0, none), (1, none), (3, none), (4, none), (6, none), (7, none), (2, none), (5, none), (8, none), (9, none), (10, none), (11, none)] mixed (by kernel_rfl) (by kernel_rfl) (by kernel_rfl) (take1 (atS at0) take0) <| w0 rfl rfl rfl (S0.move rfl) rfl <| w0 rfl rfl rfl (S0.loadAL rfl) rfl <| w0 rfl rfl rfl (S0.move rfl) rfl <| w0 rfl rfl rfl (S0.loadAL rfl) rfl <| w0 rfl rfl rfl (S0.move rfl) rfl <| w0 rfl rfl rfl (S0.build rfl (qs := [(0, _), (1, _), (2, _)]) rfl) rfl <| ?_
  refine wc rfl rfl rfl rfl (S1.callF rfl (putc (Good.z.rooms (by omega)) hc0 hl0 hd1 (e := ex) (by simp) (by simp) p1) (take1 (atS at0) (take1 (atS at0) (take1 (atS at0) take0)))) rfl ?_
  rintro _ _ ⟨cc1, lc1, dc2, hc1, hl1, hd2, rfl, rfl⟩
  refine wapp ?_
  refine wc rfl rfl rfl rfl (S1.callF rfl (putc (q1.rooms (by omega)) hc1 hl1 hd2 (e := ex) (by simp) (by simp) p2) (take1 at0 (take1 at0 (take1 at0 take0)))) rfl ?_
  rintro _ _ ⟨cc2, lc2, dc3, hc2, hl2, hd3, rfl, rfl⟩
  refine wapp ?_
  refine wc rfl rfl rfl rfl (S1.callF rfl (putc (q1.rooms (by omega)) hc2 hl2 hd3 (e := ez) (by simp) (by simp) p3) (take1 at0 (take1 at0 (take1 at0 take0)))) rfl ?_
  rintro _ _ ⟨cc3, lc3, dc4, hc3, hl3, hd4, rfl, rfl⟩
  refine wapp ?_
  refine w0 rfl rfl rfl (S0.assign rfl) rfl <| w0 rfl rfl rfl (S0.assign rfl) rfl <| w0 rfl rfl rfl (S0.assign rfl) rfl <| wE <| WP.seq <| WP.region <| v0 (S0.move rfl) rfl <| ?_
  refine vc (S1.callF rfl (bsync_spec hc3 hl3 hd4) (take1 (atS at0) (take1 (atS at0) (take1 (atS at0) take0)))) rfl ?_
  rintro _ _ ⟨lc4, dc5, hl4, hd5, rfl⟩
  refine app ?_
  refine vE <| WP.seq <| WP.region <| v0 (S0.move rfl) rfl <| v0 (S0.loadAL rfl) rfl <| ?_
  refine vc (S1.callF rfl (putc (q2.rooms (by omega)) hc3 hl4 hd5 (e := ey) (by simp) (by simp) p4) (take1 at0 (take1 at0 (take1 at0 take0)))) rfl ?_
  rintro _ _ ⟨cc6, lc6, dc6, hc6, hl6, hd6, rfl, rfl⟩
  refine app ?_
  refine v0 (S0.move rfl) rfl <| ?_
  refine vc (S1.callF rfl (tickc (q3.rooms (by omega)) hc6 hl6 hd6 p5) (take1 at0 (take1 at0 (take1 at0 take0)))) rfl ?_
  rintro _ _ ⟨cc7, lc7, dc7, hc7, hl7, hd7, rfl, rfl⟩
  refine app ?_
  refine v0 (S0.assign rfl) rfl <| v0 (S0.assign rfl) rfl <| vE <| WP.seq <| WP.region <| v0 (S0.move rfl) rfl <| ?_
  refine vcd (S1.callF rfl (afterc hc7 q3.sv.ok.w p6) (take1 at0 take0)) rfl ?_
  refine v0 (S0.move rfl) rfl <| v0 (S0.extract rfl rfl) rfl <| v0 (S0.extract rfl rfl) rfl <| v0 (S0.extract rfl rfl) rfl <| vn (S1.alloc) rfl fun b11 => vs (S1.storeA rfl rfl rfl) <| v0 (S0.assign rfl) rfl <| v0 (S0.assign rfl) rfl <| vE <| WP.seq <| WP.region <| v0 (S0.move rfl) rfl <| v0 (S0.build rfl (qs := [(0, _), (1, _)]) rfl) rfl <| vnv (S1.buildSlice rfl (qs := [(0, _)]) rfl rfl) rfl fun b63 => ?_
  refine vc (S1.callF rfl (bmissing_spec hc7 q3.sv.ok.w (IsSl.rd (k := 1) enM_len (row_mk (1, 5))) (by simp)) (take1 (atS (atS at0)) (take1 at0 take0))) rfl ?_
  rintro mv _ ⟨mrow, hms, rfl⟩
  refine app ?_
  rw [p7] at hms
  refine v0 (S0.assign rfl) rfl <| vE <| WP.seq <| WP.region <| v0 (S0.move rfl) rfl <| ?_
  refine vc (S1.callF rfl (copy_spec hd7 (by have := q3.W; omega)) (take1 (atS (atS (atS (atS (atS at0))))) take0)) rfl ?_
  rintro _ _ ⟨db2, oc, rfl, ho, rfl⟩
  refine app ?_
  refine v0 (S0.assign rfl) rfl <| vE <| WP.seq <| WP.region <| v0 (S0.move rfl) rfl <| ?_
  refine vc (S1.callF rfl (crash_spec ho q3.g.ok (by have := q3.W; omega) 0) (take1 at0 take0)) rfl ?_
  rintro _ _ ⟨oc2, ho2, rfl, rfl⟩
  refine app ?_
  refine vE <| WP.seq <| WP.region <| v0 (S0.move rfl) rfl <| ?_
  refine vc (S1.callF rfl (bopen_good ho2 (q3.g.crash 0) (by simp [crashK]) p8 (.inl p8s)) (take1 at0 take0)) rfl ?_
  rintro _ _ ⟨ob, ol, occ, olc, odc, hoc, hol, hod, rfl, rfl⟩
  refine app ?_
  refine v0 (S0.move rfl) rfl <| v0 (S0.extract rfl rfl) rfl <| v0 (S0.extract rfl rfl) rfl <| v0 (S0.assign rfl) rfl <| v0 (S0.assign rfl) rfl <| vE <| WP.seq <| WP.region <| v0 (S0.move rfl) rfl <| ?_
  refine vc (S1.callF rfl (tickc (q3.rooms (by omega)) hc7 hl7 hd7 p9) (take1 (atS (atS (atS (atS (atS at0))))) (take1 (atS (atS (atS (atS (atS (atS (atS at0))))))) (take1 (atS (atS (atS at0))) take0)))) rfl ?_
  rintro _ _ ⟨cc8, lc8, dc8, hc8, hl8, hd8, rfl, rfl⟩
  refine app ?_
  refine v0 (S0.assign rfl) rfl <| vE <| WP.seq <| WP.region <| v0 (S0.move rfl) rfl <| ?_
  refine vcd (S1.callF rfl (afterc hc8 q6.sv.ok.w p10) (take1 at0 take0)) rfl ?_
  refine v0 (S0.move rfl) rfl <| v0 (S0.extract rfl rfl) rfl <| v0 (S0.extract rfl rfl) rfl <| v0 (S0.extract rfl rfl) rfl <| vn (S1.alloc) rfl fun b19 => vs (S1.storeA rfl rfl rfl) <| v0 (S0.assign rfl) rfl <| v0 (S0.assign rfl) rfl <| vE <| WP.seq <| WP.region <| ?_
  refine vc (S1.callF rfl (new_spec) take0) rfl ?_
  rintro _ _ ⟨xdb, xc0, rfl, hx0, rfl⟩
  refine app ?_
  refine v0 (S0.assign rfl) rfl <| vE <| WP.seq <| WP.region <| v0 (S0.move rfl) rfl <| ?_
  refine vcd (S1.callF rfl (xrow_spec (rd := 0) (by decide) (s := [88]) (by decide)) take0) rfl ?_
  refine vc (S1.callF rfl (appendc hx0) (take1 at0 take0)) rfl ?_
  rintro _ _ ⟨xc1, hx1, rfl⟩
  refine app ?_
  refine vE <| WP.seq <| WP.region <| v0 (S0.move rfl) rfl <| ?_
  refine vc (S1.callF rfl (bopen_bad hx1 gX (by decide) p12 (by decide) (.inl p12s)) (take1 at0 take0)) rfl ?_
  rintro _ _ ⟨xc2, rfl, rfl⟩
  refine app ?_
  refine v0 (S0.move rfl) rfl <| v0 (S0.extract rfl rfl) rfl <| v0 (S0.extract rfl rfl) rfl <| v0 (S0.assign rfl) rfl <| v0 (S0.assign rfl) rfl <| vE <| WP.seq <| WP.seq <| WP.region <| v0 (S0.move rfl) rfl <| v0 (S0.nilP rfl rfl rfl rfl) rfl <| vE <| ?_
  refine WP.condFh rfl (rfl) ?_
  refine WP.skip <| WP.seq <| WP.drawD [190] [(0, none), (1, none), (2, none), (3, none), (4, none), (5, none), (6, none), (7, none), (8, none), (9, none), (10, none), (11, none), (12, none), (13, none), (14, none), (15, none), (16, none), (17, none), (18, none), (19, none), (20, none), (21, none), (22, none), (23, none), (24, none), (25, none), (26, none), (27, none), (28, none), (29, none), (30, none), (31, none), (32, none), (33, none), (34, none), (35, none), (36, none), (37, none), (38, none), (39, none), (40, none), (41, none), (43, none), (42, some 44), (44, none), (45, none), (46, none), (47, none), (48, none), (49, none), (50, none), (51, none), (52, none), (53, none), (54, none), (55, none), (56, none), (57, none), (58, none), (59, none), (60, none), (61, none), (62, none), (63, none), (64, none), (65, none), (66, none), (67, none), (68, none), (69, none), (70, none), (71, none), (72, none), (73, none), (74, none), (75, none), (76, none), (78, none), (77, some 79), (79, none), (80, none), (81, none), (82, none), (83, none), (84, none), (85, none), (86, none), (87, none), (88, none), (89, none), (90, none), (91, none), (92, none), (93, none), (94, none), (95, none), (96, none), (97, none), (98, none), (99, none), (100, none)] mixed (by kernel_rfl) (by kernel_rfl) (fixR) (take1 (atS (atS (atS (atS (atS (atS (atS (atS (atS (atS at0)))))))))) (take1 (atS (atS (atS (atS (atS (atS (atS (atS (atS (atS at0)))))))))) (take1 (atS (atS (atS (atS (atS (atS (atS (atS (atS (atS at0)))))))))) take0))) <| w0 rfl rfl rfl (S0.move rfl) rfl <| w0 rfl rfl rfl (S0.cmp rfl rfl rfl) rfl <| w0 rfl rfl rfl (S0.move rfl) rfl <| ?_
  refine wcsTh (t := 95) rfl (rfl) ?_
  refine w0 rfl rfl rfl (S0.move rfl) rfl <| w0 rfl rfl rfl (S0.cmp rfl rfl rfl) rfl <| w0 rfl rfl rfl (S0.pickT rfl rfl) rfl <| w0 rfl rfl rfl (S0.move rfl) rfl <| ?_
  refine wcsTh (t := 99) rfl (rfl) ?_
  refine w0 rfl rfl rfl (S0.move rfl) rfl <| w0 rfl rfl rfl (S0.cmp rfl rfl rfl) rfl <| w0 rfl rfl rfl (S0.pickT rfl rfl) rfl <| w0 rfl rfl rfl (S0.move rfl) rfl <| ?_
  refine wcsTh (t := 103) rfl (rfl) ?_
  refine w0 rfl rfl rfl (S0.move rfl) rfl <| w0 rfl rfl rfl (S0.cmp rfl rfl rfl) rfl <| w0 rfl rfl rfl (S0.pickT rfl rfl) rfl <| w0 rfl rfl rfl (S0.move rfl) rfl <| ?_
  refine wcsTh (t := 107) rfl (rfl) ?_
  refine w0 rfl rfl rfl (S0.move rfl) rfl <| w0 rfl rfl rfl (S0.cmp rfl rfl rfl) rfl <| w0 rfl rfl rfl (S0.pickT rfl rfl) rfl <| w0 rfl rfl rfl (S0.move rfl) rfl <| ?_
  refine wcsTh (t := 111) rfl (rfl) ?_
  refine w0 rfl rfl rfl (S0.loadAL rfl) rfl <| w0 rfl rfl rfl (S0.loadAL rfl) rfl <| w0 rfl rfl rfl (S0.eqAg rfl rfl rfl rfl) rfl <| w0 rfl rfl rfl (S0.pickT rfl rfl) rfl <| w0 rfl rfl rfl (S0.move rfl) rfl <| ?_
  refine wcsTh (t := 116) rfl (rfl) ?_
  refine w0 rfl rfl rfl (S0.move rfl) rfl <| w0 rfl rfl rfl (S0.cmp rfl rfl rfl) rfl <| w0 rfl rfl rfl (S0.pickT rfl rfl) rfl <| w0 rfl rfl rfl (S0.move rfl) rfl <| ?_
  refine wcsTh (t := 120) rfl (rfl) ?_
  refine w0 rfl rfl rfl (S0.move rfl) rfl <| w0 rfl rfl rfl (S0.pickT rfl rfl) rfl <| w0 rfl rfl rfl (S0.move rfl) rfl <| ?_
  refine wcsTh (t := 123) rfl (rfl) ?_
  refine w0 rfl rfl rfl (S0.move rfl) rfl <| w0 rfl rfl rfl (S0.loadAL rfl) rfl <| wnv rfl rfl rfl rfl (S1.buildSlice rfl (qs := [(0, _)]) rfl rfl) rfl fun b126 => ?_
  refine wcd rfl rfl rfl rfl (S1.callF rfl (xequal_spec hms (row_ev ey) (by decide)) (take1 (atS (atS (atS (atS (atS (atS (atS (atS (atS at0))))))))) (take1 at0 take0))) rfl ?_
  refine w0 rfl rfl rfl (S0.pickT rfl rfl) rfl <| w0 rfl rfl rfl (S0.move rfl) rfl <| ?_
  refine wcsTh (t := 129) rfl ((by simp)) ?_
  refine w0 rfl rfl rfl (S0.move rfl) rfl <| w0 rfl rfl rfl (S0.cmp rfl rfl rfl) rfl <| w0 rfl rfl rfl (S0.pickT rfl rfl) rfl <| w0 rfl rfl rfl (S0.move rfl) rfl <| ?_
  refine wcsTh (t := 133) rfl ((by simp)) ?_
  refine w0 rfl rfl rfl (S0.move rfl) rfl <| w0 rfl rfl rfl (S0.loadAL rfl) rfl <| wwait rfl rfl rfl rfl (.inl rfl) (S1.buildSlice rfl (qs := [(0, _)]) rfl rfl) <| ?_
  refine wc rfl rfl rfl rfl (S1.callF rfl (list_spec hoc q2.sv.ok.w) (take1 (atS (atS (atS (atS (atS (atS (atS at0))))))) take0)) rfl ?_
  rintro lv1 _ ⟨lr1, hl1', rfl⟩
  refine wapp ?_
  refine wcome rfl rfl rfl rfl (S1.buildSlice rfl (qs := [(0, _)]) rfl rfl) fun b137 => ?_
  refine wcd rfl rfl rfl rfl (S1.callF rfl (xequal_spec hl1' (row_ev ex) (by decide)) (take1 (atS at0) (take1 at0 take0))) rfl ?_
  refine w0 rfl rfl rfl (S0.pickT rfl rfl) rfl <| w0 rfl rfl rfl (S0.move rfl) rfl <| ?_
  refine wcsTh (t := 140) rfl ((by simp)) ?_
  refine w0 rfl rfl rfl (S0.move rfl) rfl <| ?_
  refine wcd rfl rfl rfl rfl (S1.callF rfl (seq_spec hoc 1) (take1 (atS (atS at0)) take0)) rfl ?_
  refine w0 rfl rfl rfl (S0.cmp rfl rfl rfl) rfl <| w0 rfl rfl rfl (S0.pickT rfl rfl) rfl <| w0 rfl rfl rfl (S0.move rfl) rfl <| ?_
  refine wcsTh (t := 145) rfl (rfl) ?_
  refine w0 rfl rfl rfl (S0.move rfl) rfl <| w0 rfl rfl rfl (S0.cmp rfl rfl rfl) rfl <| w0 rfl rfl rfl (S0.pickT rfl rfl) rfl <| w0 rfl rfl rfl (S0.move rfl) rfl <| ?_
  refine wcsTh (t := 149) rfl (rfl) ?_
  refine w0 rfl rfl rfl (S0.move rfl) rfl <| w0 rfl rfl rfl (S0.not rfl) rfl <| w0 rfl rfl rfl (S0.pickT rfl rfl) rfl <| w0 rfl rfl rfl (S0.move rfl) rfl <| ?_
  refine wcsTh (t := 153) rfl (rfl) ?_
  refine w0 rfl rfl rfl (S0.move rfl) rfl <| ?_
  refine wcd rfl rfl rfl rfl (S1.callF rfl (count_spec hc8) (take1 (atS (atS (atS (atS (atS (atS (atS at0))))))) take0)) rfl ?_
  refine w0 rfl rfl rfl (S0.cmp rfl rfl rfl) rfl <| w0 rfl rfl rfl (S0.pickT rfl rfl) rfl <| w0 rfl rfl rfl (S0.move rfl) rfl <| ?_
  refine wcsTh (t := 158) rfl (rfl) ?_
  refine w0 rfl rfl rfl (S0.move rfl) rfl <| ?_
  refine wcd rfl rfl rfl rfl (S1.callF rfl (room_spec hc8 q6.sv.ok.w) (take1 at0 take0)) rfl ?_
  refine w0 rfl rfl rfl (S0.cmp rfl rfl rfl) rfl <| w0 rfl rfl rfl (S0.pickT rfl rfl) rfl <| w0 rfl rfl rfl (S0.move rfl) rfl <| ?_
  refine wcsTh (t := 163) rfl (rfl) ?_
  refine w0 rfl rfl rfl (S0.move rfl) rfl <| ?_
  refine wcd rfl rfl rfl rfl (S1.callF rfl (seq_spec hc8 1) (take1 at0 take0)) rfl ?_
  refine w0 rfl rfl rfl (S0.cmp rfl rfl rfl) rfl <| w0 rfl rfl rfl (S0.pickT rfl rfl) rfl <| w0 rfl rfl rfl (S0.move rfl) rfl <| ?_
  refine wcsTh (t := 168) rfl (rfl) ?_
  refine w0 rfl rfl rfl (S0.move rfl) rfl <| w0 rfl rfl rfl (S0.build rfl (qs := [(0, _), (1, _)]) rfl) rfl <| wwait rfl rfl rfl rfl (.inl rfl) (S1.buildSlice rfl (qs := [(0, _)]) rfl rfl) <| ?_
  refine wc rfl rfl rfl rfl (S1.callF rfl (bmarks_spec hc8 q6.sv.ok.w) (take1 at0 take0)) rfl ?_
  rintro mv2 _ ⟨mr2, hm2, rfl⟩
  refine wapp ?_
  refine wcome rfl rfl rfl rfl (S1.buildSlice rfl (qs := [(0, _)]) rfl rfl) fun b172 => ?_
  refine wcd rfl rfl rfl rfl (S1.callF rfl (requal_spec hm2 (row_mk (1, 7)) (by decide)) (take1 (atS at0) (take1 at0 take0))) rfl ?_
  refine w0 rfl rfl rfl (S0.pickT rfl rfl) rfl <| w0 rfl rfl rfl (S0.move rfl) rfl <| ?_
  refine wcsTh (t := 175) rfl ((by simp)) ?_
  refine w0 rfl rfl rfl (S0.move rfl) rfl <| w0 rfl rfl rfl (S0.cmp rfl rfl rfl) rfl <| w0 rfl rfl rfl (S0.pickT rfl rfl) rfl <| w0 rfl rfl rfl (S0.move rfl) rfl <| ?_
  refine wcsTh (t := 179) rfl ((by simp)) ?_
  refine w0 rfl rfl rfl (S0.move rfl) rfl <| ?_
  refine wc rfl rfl rfl rfl (S1.callF rfl (list_spec hc8 q6.sv.ok.w) (take1 (atS (atS at0)) take0)) rfl ?_
  rintro lv2 _ ⟨lr2, hl2', rfl⟩
  refine wapp ?_
  obtain ⟨la2, lc2', rfl, -, -⟩ := IsSl.elems (k := 4) evB_len hl2'
  refine w0 rfl rfl rfl (S0.lenSl rfl) rfl <| w0 rfl rfl rfl (S0.cmp rfl rfl rfl) rfl <| w0 rfl rfl rfl (S0.pickT rfl rfl) rfl <| w0 rfl rfl rfl (S0.move rfl) rfl <| ?_
  refine wcsTh (t := 185) rfl (rfl) ?_
  refine w0 rfl rfl rfl (S0.move rfl) rfl <| ?_
  refine wc rfl rfl rfl rfl (S1.callF rfl (list_spec hc8 q6.sv.ok.w) (take1 (atS at0) take0)) rfl ?_
  rintro lv3 _ ⟨lr3, hl3', rfl⟩
  refine wapp ?_
  obtain ⟨la3, lc3', rfl, -, hr3⟩ := IsSl.elems (k := 4) evB_len hl3'
  rcases hr3 with ⟨e, -⟩ | ⟨b9, sp9, rfl, rfl, hsp9⟩
  · cases e
  refine w0 rfl rfl rfl (S0.indexN (k := 5) (i := 0) rfl rfl (by decide)) rfl <| ?_
  refine w0 rfl rfl rfl (S0.fieldAddr rfl) rfl <| ?_
  refine w1 rfl rfl rfl rfl (S1.of0 (S0.load (v := .int .i64 2) rfl rfl)) rfl <| ?_
  refine w0 rfl rfl rfl (S0.cmp rfl rfl rfl) rfl <| w0 rfl rfl rfl (S0.pickT rfl rfl) rfl <| w0 rfl rfl rfl (S0.assign rfl) rfl <| wE <| WP.ret <| ?_
  refine Leaves.drop take0 ?_
  refine r1 rfl rfl ⟨?_, rfl⟩
  rfl
end Go.Proofs.YtjpjebfodhbdfaaGreatDoor
namespace Go.Proofs.YtjpjebfodhbdfaaGreatDoor
open Go
theorem min40 (n : Nat) : (if (40 : Int) < (n : Int) then 40 else (n : Int)) = ((min n 40 : Nat) : Int) := by split <;> omega
theorem op_ev (sp : List Value) {L : List OpB} {i : Nat} {x : OpB} (h : L[i]? = some x) : ((L.flatMap enO ++ sp).drop (i * 7 + 1)).take 5 = evB x.e := by
  have := flat_take enO_len sp L i x h
  have e : (((L.flatMap enO ++ sp).drop (i * 7)).take 7).take 6 = ((L.flatMap enO ++ sp).drop (i * 7)).take 6 := by rw [List.take_take]; rfl
  rw [← List.drop_drop, show 5 = 6 - 1 from rfl, ← List.drop_take, ← e, this]; rfl
end Go.Proofs.YtjpjebfodhbdfaaGreatDoor
namespace Go.Proofs.YtjpjebfodhbdfaaGreatDoor
open Go
abbrev evL (b : Ct) : List Ev := b.L.map (·.2)
end Go.Proofs.YtjpjebfodhbdfaaGreatDoor
namespace Go.Proofs.YtjpjebfodhbdfaaGreatDoor
open Go
end Go.Proofs.YtjpjebfodhbdfaaGreatDoor
namespace Go.Proofs.YtjpjebfodhbdfaaGreatDoor
open Go
structure StG where
  i : Nat
  b : Ct
  G : Lg
  D : Dk
  cc : List Blk
  lc : List Blk
  dc : List Blk
end Go.Proofs.YtjpjebfodhbdfaaGreatDoor
namespace Go.Proofs.YtjpjebfodhbdfaaGreatDoor
open Go
end Go.Proofs.YtjpjebfodhbdfaaGreatDoor
namespace Go.Proofs.YtjpjebfodhbdfaaGreatDoor
open Go
theorem filter_at {α : Type} (p : α → Bool) {L : List α} {i : Nat} {x : α} (hx : L[i]? = some x) (hp : p x = true) : (L.filter p)[((L.take i).filter p).length]? = some x := by
  have hl := (List.getElem?_eq_some_iff.1 hx).1
  have e : L = L.take i ++ x :: L.drop (i + 1) := by
    have := (List.getElem?_eq_some_iff.1 hx).2
    rw [← this, ← List.drop_eq_getElem_cons hl, List.take_append_drop]
  have e2 : L.filter p = (L.take i).filter p ++ (x :: (L.drop (i + 1)).filter p) := by
    conv => lhs; rw [e]
    rw [List.filter_append, List.filter_cons, if_pos hp]
  rw [e2, List.getElem?_append_right (Nat.le_refl _), Nat.sub_self]
  rfl
set_option maxRecDepth 100000 in
set_option maxHeartbeats 4000000 in
theorem bookMisses_walk (W : World) (lv : Value) (hl : ArgF W opK lv) (mv : Value) (hm : ArgF W mkK mv) : FN Tryz.prog 7 [lv, mv] [whole W] (fun v h => v = .bool true ∧ h = [whole W]) := by
  obtain ⟨l0, hrl⟩ := argOps hl
  obtain ⟨ml, hrm⟩ := argMks hm
  obtain ⟨mla, mlcap, rfl, hmlc, -⟩ := id hrm
  obtain ⟨-, -, hrm2⟩ := hrm.cutG 0 (min ml.length 40) (Nat.zero_le _) (Nat.min_le_left _ _)
  have hmll : ((ml.drop 0).take (min ml.length 40 - 0)).length ≤ 40 := by simp; omega
  have hll := cutOs_len l0
  have hlx := cutOs_mem (l := l0)
  refine FN.intro 123 [(0, lv), (1, .slice mla ml.length mlcap)] Tryz.func7 rfl (enters Tryz.func7 (by kernel_rfl) rfl) Tryz.ntmps7 rfl rfl ?_
  refine WP.seq <| WP.region <| v0 (S0.assign rfl) rfl <| vE <| WP.seq <| WP.region <| v0 (S0.move rfl) rfl <| ?_
  refine vc (S1.callF rfl (cut_spec hrl) (take1 at0 take0)) rfl ?_
  rintro _ _ ⟨row, hs, rfl⟩
  refine app ?_
  generalize cutOs l0 = M at hll hlx hs
  obtain ⟨ma, mcap, rfl, hmcap, hrow⟩ := IsSl.elems (k := 6) enO_len hs
  refine v0 (S0.assign rfl) rfl <| vE <| WP.seq <| WP.region <| v0 (S0.move rfl) rfl <| v0 (S0.move rfl) rfl <| v0 (S0.lenSl rfl) rfl <| v0 (S0.min2 rfl rfl rfl) rfl <| ?_
  rw [min40]
  refine v0 (S0.sliceG (i := 0) (j := min ml.length 40) rfl rfl rfl ⟨Nat.zero_le _, by omega⟩) rfl <| ?_
  generalize (ml.drop 0).take (min ml.length 40 - 0) = mk at hrm2 hmll
  generalize (Value.slice (if mlcap = 0 then mla else mla.map (·.add (0 * 2))) (min ml.length 40 - 0) (mlcap - 0)) = mv at hrm2 ⊢
  obtain ⟨mka, mkcap, rfl, hmkc, hmkr⟩ := id hrm2
  refine v0 (S0.assign rfl) rfl <| vE <| WP.seq <| WP.region <| ?_
  refine vc (S1.callF rfl (new_spec) take0) rfl ?_
  rintro _ _ ⟨db, dc0, rfl, hd0, rfl⟩
  refine app ?_
  refine vc (S1.callF rfl (bopen_good hd0 DkG.z (by simp) o0 (.inl rfl)) (take1 at0 take0)) rfl ?_
  rintro _ _ ⟨bb, lb, cc0, lc0, dc1, hc0, hl0, hd1, rfl, rfl⟩
  refine app ?_
  refine v0 (S0.move rfl) rfl <| v0 (S0.extract rfl rfl) rfl <| v0 (S0.extract rfl rfl) rfl <| v0 (S0.assign rfl) rfl <| v0 (S0.assign rfl) rfl <| vE <| WP.seq <| WP.seq <| WP.region <| v0 (S0.move rfl) rfl <| v0 (S0.nilP rfl rfl rfl rfl) rfl <| v0 (S0.move rfl) rfl <| ?_
  refine csFh (t := 29) rfl ((by simp)) ?_
  refine gT rfl <| v0 (S0.move rfl) rfl <| gT rfl <| v0 (S0.cmp rfl rfl rfl) rfl <| v0 (S0.pickF rfl rfl) rfl <| vE <| ?_
  refine WP.condFh rfl ((by simp)) ?_
  refine WP.skip <| WP.seq <| WP.seq <| WP.region <| v0 (S0.assign rfl) rfl <| vE <| WP.block <| ?_
  refine WP.loop (fun st : StG => st.i ≤ M.length ∧ IsCt bb lb st.b st.cc ∧ IsLog lb db st.G st.lc ∧ IsDisk db st.D st.dc ∧ Good (fun _ => True) st.i st.b st.G st.D) (fun st : StG => [(1, .slice mka mk.length mkcap), (5, .slice ma M.length mcap), (6, ptrB bb), (8, .int .i64 (st.i : Int))]) (fun st : StG => [st.cc, st.lc, st.dc, row, whole W]) (fun st : StG => M.length - st.i) (StG.mk 0 ct0 g0 dk0 cc0 lc0 dc1) (⟨Nat.zero_le _, hc0, hl0, hd1, Good.z.mono (by simp) fun _ _ => trivial⟩) ⟨rfl, rfl, rfl, rfl, trivial⟩ ⟨_, (take1 at0 (take1 at0 (take1 at0 (take1 at0 (take1 at0 take0)))))⟩ (fun st hinv => ?_)
  obtain ⟨i, b, G, D, cc, lc, dc⟩ := st
  obtain ⟨hi, hc, hlg, hd, hg⟩ := hinv
  dsimp only at hi hc hlg hd hg ⊢
  have hro : Rooms b G D := hg.rooms (by omega)
  refine WP.seq <| WP.seq <| WP.region <| v0 (S0.move rfl) rfl <| v0 (S0.move rfl) rfl <| v0 (S0.lenSl rfl) rfl <| v0 (S0.cmp rfl rfl rfl) rfl <| vE <| ?_
  first | refine WP.condP rfl (fun h1 => ?_) (fun h1 => ?_) | refine WP.condN rfl (fun h1 => ?_) (fun h1 => ?_) | refine WP.cond rfl (fun h1 => ?_) (fun h1 => ?_)
  · have hlt : i < M.length := by omega
    rcases hrow with ⟨e, -⟩ | ⟨b1, sp1, rfl, rfl, hsp1⟩
    · rw [e] at hlt; simp at hlt
    have hx : M[i]? = some M[i] := by simp [hlt]
    have hxl := hlx _ (List.getElem_mem hlt)
    generalize M[i] = x at hx hxl
    have gk := flat_get enO_len sp1 M i 0 x hx (by decide)
    have gn := flat_get enO_len sp1 M i 6 x hx (by decide)
    have ge := op_ev sp1 hx
    refine WP.skip <| WP.seq <| WP.block <| WP.seq <| WP.region <| v0 (S0.move rfl) rfl <| v0 (S0.move rfl) rfl <| ?_
    refine v0 (S0.indexN (k := 7) rfl rfl hlt) rfl <| ?_
    refine v0 (S0.fieldAddr rfl) rfl <| ?_
    refine v0 (S0.load (v := .int .i64 x.k) rfl gk) rfl <| ?_
    refine v0 (S0.cmp rfl rfl rfl) rfl <| vE <| ?_
    first | refine WP.condP rfl (fun k0 => ?_) (fun k0 => ?_) | refine WP.condN rfl (fun k0 => ?_) (fun k0 => ?_) | refine WP.cond rfl (fun k0 => ?_) (fun k0 => ?_)
    · have hq := hg.tick (by omega) x.n (Q := fun _ => True) (fun _ _ => trivial) trivial
      refine WP.region <| v0 (S0.move rfl) rfl <| v0 (S0.move rfl) rfl <| v0 (S0.move rfl) rfl <| ?_
      refine v0 (S0.indexN (k := 7) rfl rfl hlt) rfl <| ?_
      refine v0 (S0.fieldAddr rfl) rfl <| ?_
      refine v0 (S0.load (v := .int .i64 x.n) rfl gn) rfl <| ?_
      refine vc (S1.callF rfl (btick_spec hro hc hlg hd x.n) (take1 at0 (take1 at0 (take1 at0 take0)))) rfl ?_
      rintro _ _ ⟨cc2, lc2, dc2, rfl, hc2, hl2, hd2, rfl⟩
      refine app ?_
      refine vE <| WP.region <| v0 (S0.move rfl) rfl <| v0 (S0.ari rfl rfl rfl (wrap_i64 (by omega))) rfl <| v0 (S0.assign rfl) rfl <| vE <| ?_
      exact ⟨StG.mk (i + 1) (tickBk b G D x.n).2.1 (tickBk b G D x.n).2.2.1 (tickBk b G D x.n).2.2.2 cc2 lc2 dc2, (by first | exact ⟨hlt, hc2, hl2, hd2, hq⟩ | (dsimp only; exact ⟨hlt, hc2, hl2, hd2, hq⟩)), (show M.length - (i + 1) < M.length - i by omega), ⟨⟨rfl, rfl, rfl, rfl, trivial⟩, rfl, rfl⟩, ⟨_, (take1 at0 (take1 at0 (take1 at0 (take1 at0 (take1 at0 take0)))))⟩⟩
    · have hq := hg.put (by omega) x.e (Q := fun _ => True) (fun _ _ => trivial) trivial
      refine WP.region <| v0 (S0.move rfl) rfl <| v0 (S0.move rfl) rfl <| v0 (S0.move rfl) rfl <| ?_
      refine v0 (S0.indexN (k := 7) rfl rfl hlt) rfl <| ?_
      refine v0 (S0.fieldAddr rfl) rfl <| ?_
      refine v0 (S0.loadA rfl ge rfl) rfl <| ?_
      refine vc (S1.callF rfl (bput_spec hro hc hlg hd (e := x.e) (by omega) (by omega)) (take1 at0 (take1 at0 (take1 at0 take0)))) rfl ?_
      rintro _ _ ⟨cc2, lc2, dc2, rfl, hc2, hl2, hd2, rfl⟩
      refine app ?_
      refine vE <| WP.region <| v0 (S0.move rfl) rfl <| v0 (S0.ari rfl rfl rfl (wrap_i64 (by omega))) rfl <| v0 (S0.assign rfl) rfl <| vE <| ?_
      exact ⟨StG.mk (i + 1) (putBk b G D x.e).2.1 (putBk b G D x.e).2.2.1 (putBk b G D x.e).2.2.2 cc2 lc2 dc2, (by first | exact ⟨hlt, hc2, hl2, hd2, hq⟩ | (dsimp only; exact ⟨hlt, hc2, hl2, hd2, hq⟩)), (show M.length - (i + 1) < M.length - i by omega), ⟨⟨rfl, rfl, rfl, rfl, trivial⟩, rfl, rfl⟩, ⟨_, (take1 at0 (take1 at0 (take1 at0 (take1 at0 (take1 at0 take0)))))⟩⟩
  · have hok := hg.sv.ok
    have hw := hro.w
    have hlen := hw.len
    have hbn := hg.sv.bn
    have hLE : (evL b).length = b.L.length := List.length_map _
    have hls := list_spec hc hw
    change FN _ _ _ _ (fun u h => ∃ row, IsSl 41 5 u (evsB (evL b)) row ∧ h = [row, cc]) at hls
    have hbm := bmissing_spec hc hw hrm2 (by omega)
    have hmk : missK b mk = (evL b).filter fun e => decide (hadL mk e.o < e.s) := rfl
    rw [hmk] at hbm
    generalize evL b = EL at hLE hls hbm
    have hfl := List.length_filter_le (fun e : Ev => decide (hadL mk e.o < e.s)) EL
    refine WP.exit <| WP.seq <| WP.region <| v0 (S0.move rfl) rfl <| ?_
    refine vc (S1.callF rfl (hls) (take1 at0 take0)) rfl ?_
    rintro av _ ⟨arow, has, rfl⟩
    refine app ?_
    obtain ⟨aa, acap, rfl, hacap, harow⟩ := IsSl.elems (k := 4) evB_len has
    refine v0 (S0.move rfl) rfl <| v0 (S0.move rfl) rfl <| ?_
    refine vc (S1.callF rfl (hbm) (take1 (atS at0) (take1 (atS (atS (atS (atS at0)))) take0))) rfl ?_
    rintro uv _ ⟨urow, hus, rfl⟩
    refine app ?_
    obtain ⟨ua, ucap, rfl, hucap, hurow⟩ := IsSl.elems (k := 4) evB_len hus
    refine v0 (S0.assign rfl) rfl <| v0 (S0.assign rfl) rfl <| v0 (S0.assign rfl) rfl <| vE <| WP.seq <| WP.seq <| WP.region <| v0 (S0.assign rfl) rfl <| vE <| WP.block <| ?_
    refine WP.loop (fun st : Nat × Nat => st.1 ≤ EL.length ∧ st.2 = ((EL.take st.1).filter fun e => decide (hadL mk e.o < e.s)).length) (fun st : Nat × Nat => [(1, .slice mka mk.length mkcap), (9, .slice aa EL.length acap), (10, .slice ua (EL.filter fun e => decide (hadL mk e.o < e.s)).length ucap), (11, .int .i64 (st.2 : Int)), (12, .int .i64 (st.1 : Int))]) (fun st : Nat × Nat => [arow, urow, whole W]) (fun st : Nat × Nat => EL.length - st.1) ((0, 0)) (⟨Nat.zero_le _, by simp⟩) ⟨rfl, rfl, rfl, rfl, rfl, trivial⟩ ⟨_, (take1 (atS (atS (atS at0))) (take1 at0 (take1 (atS at0) take0)))⟩ (fun st hinv => ?_)
    obtain ⟨k, q⟩ := st
    obtain ⟨hk, hq0⟩ := hinv
    dsimp only at hk hq0 ⊢
    refine WP.seq <| WP.seq <| WP.region <| v0 (S0.move rfl) rfl <| v0 (S0.move rfl) rfl <| v0 (S0.lenSl rfl) rfl <| v0 (S0.cmp rfl rfl rfl) rfl <| vE <| ?_
    first | refine WP.condP rfl (fun h2 => ?_) (fun h2 => ?_) | refine WP.condN rfl (fun h2 => ?_) (fun h2 => ?_) | refine WP.cond rfl (fun h2 => ?_) (fun h2 => ?_)
    · have hlt2 : k < EL.length := by omega
      have hy : EL[k]? = some EL[k] := by simp [hlt2]
      generalize EL[k] = y at hy
      rcases harow with ⟨e, -⟩ | ⟨b2, sp2, rfl, rfl, hsp2⟩
      · rw [e] at hlt2; simp at hlt2
      have g0 := flat_get evB_len sp2 EL k 0 y hy (by decide)
      have g1 := flat_get evB_len sp2 EL k 1 y hy (by decide)
      have gE : ((evsB EL ++ sp2).drop (k * 5)).take 5 = evB y := flat_take evB_len sp2 EL k y hy
      have htk := take_one hy
      refine WP.skip <| WP.seq <| WP.block <| WP.seq <| WP.region <| v0 (S0.assign rfl) rfl <| vE <| WP.seq <| WP.seq <| WP.region <| v0 (S0.assign rfl) rfl <| vE <| WP.block <| ?_
      refine WP.loop (fun st : Nat => st ≤ mk.length) (fun st : Nat => [(1, .slice mka mk.length mkcap), (9, .slice (some ⟨b2, 0, none⟩) EL.length acap), (10, .slice ua (EL.filter fun e => decide (hadL mk e.o < e.s)).length ucap), (11, .int .i64 (q : Int)), (12, .int .i64 (k : Int)), (13, .int .i64 (hadL (mk.take st) y.o)), (14, .int .i64 (st : Int))]) (fun st : Nat => [[(b2, .cells ⟨evsB EL ++ sp2⟩ 41 (0, 0))], urow, whole W]) (fun st : Nat => mk.length - st) (0) (Nat.zero_le _) ⟨rfl, rfl, rfl, rfl, rfl, rfl, rfl, trivial⟩ ⟨_, (take1 at0 (take1 at0 (take1 at0 take0)))⟩ (fun st hinv => ?_)
      dsimp only at hinv ⊢
      refine WP.seq <| WP.seq <| WP.region <| v0 (S0.move rfl) rfl <| v0 (S0.move rfl) rfl <| v0 (S0.lenSl rfl) rfl <| v0 (S0.cmp rfl rfl rfl) rfl <| vE <| ?_
      first | refine WP.condP rfl (fun h3 => ?_) (fun h3 => ?_) | refine WP.condN rfl (fun h3 => ?_) (fun h3 => ?_) | refine WP.cond rfl (fun h3 => ?_) (fun h3 => ?_)
      · have hlt3 : st < mk.length := by omega
        have hz : mk[st]? = some mk[st] := by simp [hlt3]
        generalize mk[st] = z at hz
        rcases hmkr with e | ⟨b3, o3, L3, U3, fz3, rfl, hmem, hel⟩
        · rw [e] at hlt3; simp at hlt3
        have : HasC (whole W) b3 (.cells ⟨L3⟩ U3 fz3) := ⟨hmem⟩
        have hz2 := hel st z hz
        have m0 := rd_get (en := enM) hz2 (j := 0) (by decide)
        have m1 := rd_get (en := enM) hz2 (j := 1) (by decide)
        have hhd : hadL (mk.take (st + 1)) y.o = if y.o = z.1 then z.2 else hadL (mk.take st) y.o := by rw [List.take_add_one, hz, Option.toList_some, hadL_snoc]
        refine WP.skip <| WP.seq <| WP.block <| WP.seq <| WP.drawP [(0, none), (1, none), (2, none), (3, none), (4, none), (5, none), (6, none), (7, none), (8, none), (9, none), (10, none)] mixed (by kernel_rfl) (by kernel_rfl) (by kernel_rfl) (take1 at0 (take1 (atS at0) take0)) <| w0 rfl rfl rfl (S0.move rfl) rfl <| w0 rfl rfl rfl (S0.move rfl) rfl <| ?_
        refine w0 rfl rfl rfl (S0.indexO (k := 2) rfl rfl hlt3) rfl <| ?_
        refine w0 rfl rfl rfl (S0.fieldAddr rfl) rfl <| ?_
        refine w0 rfl rfl rfl (S0.load (v := .int .i64 z.1) rfl m0) rfl <| ?_
        refine w0 rfl rfl rfl (S0.move rfl) rfl <| w0 rfl rfl rfl (S0.move rfl) rfl <| ?_
        refine w0 rfl rfl rfl (S0.indexN (k := 5) rfl rfl hlt2) rfl <| ?_
        refine w0 rfl rfl rfl (S0.fieldAddr rfl) rfl <| ?_
        refine w0 rfl rfl rfl (S0.load (v := .int .i64 y.o) rfl g0) rfl <| ?_
        refine w0 rfl rfl rfl (S0.cmp rfl rfl rfl) rfl <| wE <| ?_
        first | refine WP.condP rfl (fun h4 => ?_) (fun h4 => ?_) | refine WP.condN rfl (fun h4 => ?_) (fun h4 => ?_) | refine WP.cond rfl (fun h4 => ?_) (fun h4 => ?_)
        · refine WP.region <| v0 (S0.move rfl) rfl <| v0 (S0.move rfl) rfl <| ?_
          refine v0 (S0.indexO (k := 2) rfl rfl hlt3) rfl <| ?_
          refine v0 (S0.fieldAddr rfl) rfl <| ?_
          refine v0 (S0.load (v := .int .i64 z.2) rfl m1) rfl <| ?_
          refine v0 (S0.assign rfl) rfl <| vE <| WP.region <| v0 (S0.move rfl) rfl <| v0 (S0.ari rfl rfl rfl (wrap_i64 (by omega))) rfl <| v0 (S0.assign rfl) rfl <| vE <| ?_
          rw [if_pos h4.symm] at hhd
          rw [← hhd]
          exact ⟨st + 1, (by first | exact hlt3 | (dsimp only; exact hlt3)), (show mk.length - (st + 1) < mk.length - st by omega), ⟨⟨rfl, rfl, rfl, rfl, rfl, rfl, rfl, trivial⟩, rfl, rfl⟩, ⟨_, (take1 at0 (take1 (atS at0) (take1 at0 take0)))⟩⟩
        · refine WP.skip <| WP.region <| v0 (S0.move rfl) rfl <| v0 (S0.ari rfl rfl rfl (wrap_i64 (by omega))) rfl <| v0 (S0.assign rfl) rfl <| vE <| ?_
          rw [if_neg fun e => h4 e.symm] at hhd
          rw [← hhd]
          exact ⟨st + 1, (by first | exact hlt3 | (dsimp only; exact hlt3)), (show mk.length - (st + 1) < mk.length - st by omega), ⟨⟨rfl, rfl, rfl, rfl, rfl, rfl, rfl, trivial⟩, rfl, rfl⟩, ⟨_, (take1 at0 (take1 (atS at0) (take1 at0 take0)))⟩⟩
      · have h9 : st = mk.length := by omega
        subst h9
        rw [List.take_length]
        have hfk : ((EL.take (k + 1)).filter fun e => decide (hadL mk e.o < e.s)).length = q + (if hadL mk y.o < y.s then 1 else 0) := by
          rw [htk, List.filter_append, List.length_append, ← hq0, List.filter_cons, List.filter_nil]
          by_cases e : hadL mk y.o < y.s <;> simp [e]
        refine WP.exit <| WP.seq <| WP.seq <| WP.region <| v0 (S0.move rfl) rfl <| v0 (S0.move rfl) rfl <| ?_
        refine v0 (S0.indexN (k := 5) rfl rfl hlt2) rfl <| ?_
        refine v0 (S0.fieldAddr rfl) rfl <| ?_
        refine v0 (S0.load (v := .int .i64 y.s) rfl g1) rfl <| ?_
        refine v0 (S0.move rfl) rfl <| v0 (S0.cmp rfl rfl rfl) rfl <| vE <| ?_
        first | refine WP.condP rfl (fun h5 => ?_) (fun h5 => ?_) | refine WP.condN rfl (fun h5 => ?_) (fun h5 => ?_) | refine WP.cond rfl (fun h5 => ?_) (fun h5 => ?_)
        · rw [if_neg (by omega)] at hfk
          refine WP.exit <| WP.region <| v0 (S0.move rfl) rfl <| v0 (S0.ari rfl rfl rfl (wrap_i64 (by omega))) rfl <| v0 (S0.assign rfl) rfl <| vE <| ?_
          exact ⟨(k + 1, q), (by first | exact ⟨hlt2, hfk.symm⟩ | (dsimp only; exact ⟨hlt2, hfk.symm⟩)), (show EL.length - (k + 1) < EL.length - k by omega), ⟨⟨rfl, rfl, rfl, rfl, rfl, trivial⟩, rfl, rfl⟩, ⟨_, (take1 at0 (take1 at0 (take1 at0 take0)))⟩⟩
        · rw [if_pos (by omega)] at hfk
          have hft := filter_at (fun e : Ev => decide (hadL mk e.o < e.s)) hy (decide_eq_true (by omega))
          rw [← hq0] at hft
          generalize EL.filter (fun e => decide (hadL mk e.o < e.s)) = FL at hus hurow hfl hft
          have hql := (List.getElem?_eq_some_iff.1 hft).1
          rcases hurow with ⟨e, -⟩ | ⟨b4, sp4, rfl, rfl, hsp4⟩
          · rw [e] at hql; simp at hql
          have gF : ((evsB FL ++ sp4).drop (q * 5)).take 5 = evB y := flat_take evB_len sp4 FL q y hft
          refine WP.skip <| WP.seq <| WP.seq <| WP.drawP [(0, none), (1, none), (2, none), (3, none), (4, none), (5, none), (6, none), (7, none), (8, none), (9, none), (10, none), (11, none), (12, none), (13, none), (14, none)] mixed (by kernel_rfl) (by kernel_rfl) (by kernel_rfl) (take1 at0 (take1 at0 take0)) <| w0 rfl rfl rfl (S0.move rfl) rfl <| w0 rfl rfl rfl (S0.move rfl) rfl <| w0 rfl rfl rfl (S0.lenSl rfl) rfl <| w0 rfl rfl rfl (S0.cmp rfl rfl rfl) rfl <| w0 rfl rfl rfl (S0.move rfl) rfl <| ?_
          refine wcsFh (t := 103) rfl ((by simp; omega)) ?_
          refine w0 rfl rfl rfl (S0.move rfl) rfl <| w0 rfl rfl rfl (S0.move rfl) rfl <| ?_
          refine w0 rfl rfl rfl (S0.indexN (k := 5) rfl rfl hql) rfl <| ?_
          refine w0 rfl rfl rfl (S0.loadA rfl gF rfl) rfl <| ?_
          refine w0 rfl rfl rfl (S0.move rfl) rfl <| w0 rfl rfl rfl (S0.move rfl) rfl <| ?_
          refine w0 rfl rfl rfl (S0.indexN (k := 5) rfl rfl hlt2) rfl <| ?_
          refine w0 rfl rfl rfl (S0.loadA rfl gE rfl) rfl <| ?_
          refine w0 rfl rfl rfl (S0.eqAg rfl rfl rfl rfl) rfl <| w0 rfl rfl rfl (S0.pickF rfl rfl) rfl <| wE <| ?_
          refine WP.condFh rfl ((by simp)) ?_
          refine WP.skip <| WP.region <| v0 (S0.move rfl) rfl <| v0 (S0.ari rfl rfl rfl (wrap_i64 (by omega))) rfl <| v0 (S0.assign rfl) rfl <| vE <| WP.region <| v0 (S0.move rfl) rfl <| v0 (S0.ari rfl rfl rfl (wrap_i64 (by omega))) rfl <| v0 (S0.assign rfl) rfl <| vE <| ?_
          exact ⟨(k + 1, q + 1), (by first | exact ⟨hlt2, hfk.symm⟩ | (dsimp only; exact ⟨hlt2, hfk.symm⟩)), (show EL.length - (k + 1) < EL.length - k by omega), ⟨⟨rfl, rfl, rfl, rfl, rfl, trivial⟩, rfl, rfl⟩, ⟨_, (take1 at0 (take1 at0 (take1 at0 take0)))⟩⟩
    · have h9 : k = EL.length := by omega
      subst h9
      rw [List.take_length] at hq0
      subst hq0
      refine WP.exit <| WP.seq <| WP.region <| v0 (S0.move rfl) rfl <| v0 (S0.move rfl) rfl <| v0 (S0.lenSl rfl) rfl <| v0 (S0.cmp rfl rfl rfl) rfl <| v0 (S0.move rfl) rfl <| ?_
      refine csTh (t := 120) rfl ((by simp)) ?_
      refine gT rfl <| vcd (S1.callF rfl (fixed_spec) take0) rfl ?_
      refine v0 (S0.pickT rfl rfl) rfl <| v0 (S0.assign rfl) rfl <| vE <| WP.ret <| ?_
      refine Leaves.drop (take1 (atS (atS at0)) take0) ?_
      refine r1 rfl rfl ?_
      exact ⟨rfl, rfl⟩
end Go.Proofs.YtjpjebfodhbdfaaGreatDoor
namespace Go.Proofs.YtjpjebfodhbdfaaGreatDoor
open Go
def u8s (l : List Nat) : Array Value := (l.map fun (n : Nat) => Value.int .u8 n).toArray
def acceptZ : List Nat := [128, 191, 160, 191, 128, 159, 144, 191, 128, 143, 0, 0, 0, 0, 0, 0, 0, 0, 0, 0, 0, 0, 0, 0, 0, 0, 0, 0, 0, 0, 0, 0]
noncomputable def laidWorld (os : Os) : World :=
  let w0 := World.holding Tryz.prog os ⟨#[], #[], []⟩
  { w0 with heap := (w0.heap.modify 1 fun
      | .cells _ t frozen => .cells (u8s acceptZ) t frozen
      | o => o).modify 0 fun
      | .cells _ t frozen => .cells (u8s Go.Pinned.utf8FirstZ) t frozen
      | o => o }
abbrev laidList : List (String × DataW Unit) := [("unicode/utf8.acceptRanges", Rows.laid_unicode_utf8_acceptRanges), ("unicode/utf8.first", Rows.laid_unicode_utf8_first)]
set_option maxRecDepth 100000 in
theorem laidWorld_met (os : Os) (args : Array Value) : laidMetH Tryz.prog laidList ((laidWorld os).forCall (fun _ _ => 0) ⟨#[], args, []⟩).memory :=
  laidMetH_of_parts (laidMet_of_run' 100 (by kernel_rfl) (by kernel_rfl)) (by kernel_rfl)
end Go.Proofs.YtjpjebfodhbdfaaGreatDoor
