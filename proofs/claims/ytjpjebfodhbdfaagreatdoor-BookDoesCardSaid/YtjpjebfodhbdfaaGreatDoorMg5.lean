import Derived.Test.YtjpjebfodhbdfaaGreatDoorMg4
import Derived.Test.YtjpjebfodhbdfaaGreatDoorMg3
import Derived.Test.YtjpjebfodhbdfaaGreatDoorMg2
set_option linter.unusedSimpArgs false
set_option linter.unusedVariables false
set_option linter.unnecessarySimpa false
namespace Go.Proofs.YtjpjebfodhbdfaaGreatDoor
open Go
theorem read_parts {s : Str} {B : Ct} (h : readK s = some B) : ∃ n a1 many a3, numK s 0 = some (n, a1) ∧ (cutM s a1).2.2 = 0 ∧ numK s (cutM s a1).2.1.toNat = some (many, a3) ∧ many ≤ 64 ∧ readL s (cutM s a1).1 n many [] 0 a3 = some (B.L, s.length) ∧ B.M = (cutM s a1).1 ∧ B.n = n := by
  unfold readK at h
  cases h1 : numK s 0 with
  | none => rw [h1] at h; cases h
  | some x =>
    obtain ⟨n, a1⟩ := x
    rw [h1] at h
    dsimp only at h
    split at h
    · rename_i h2
      unfold readE at h
      cases h3 : numK s (cutM s a1).2.1.toNat with
      | none => rw [h3] at h; cases h
      | some y =>
        obtain ⟨many, a3⟩ := y
        rw [h3] at h
        dsimp only at h
        split at h
        · rename_i h4
          cases h5 : readL s (cutM s a1).1 n many [] 0 a3 with
          | none => rw [h5] at h; cases h
          | some z =>
            obtain ⟨L, e⟩ := z
            rw [h5] at h
            dsimp only at h
            split at h
            · rename_i h6
              cases h
              subst h6
              exact ⟨n, a1, many, a3, rfl, h2, h3, h4, h5, rfl, rfl⟩
            · cases h
        · cases h
    · cases h
theorem bread_spec {bb lb : Nat} {cc : List Blk} (h : IsCt bb lb ct0 cc) {s : Str} (hs : s.length ≤ 900000) {B : Ct} (hB : readK s = some B) : FN Tryz.prog 39 [ptrB bb, sv s] [cc]
    (fun _ h => ∃ cc', CtW B ∧ B.n ≤ 1099511627776 ∧ IsCt bb lb B cc' ∧ h = [cc']) := by
  obtain ⟨v0, row0, m, A0, ck0, hs0, hA0, rfl⟩ := h
  obtain ⟨va0, cap0, rfl, -, -⟩ := IsSl.elems (k := 5) enN_len hs0
  obtain ⟨n, a1, many, a3, hn, hb0, hn2, hm64, hrd0, hBM, hBn⟩ := read_parts hB
  obtain ⟨ha1, hnm⟩ := numK_le hn
  obtain ⟨hp, hsort, hp3⟩ := cutM_le ha1 hb0
  obtain ⟨ha3, -⟩ := numK_le hn2
  refine FN.intro 129 [(0, ptrB bb), (1, sv s)] Tryz.func39 rfl (enters Tryz.func39 (by kernel_rfl) rfl) Tryz.ntmps39 rfl rfl ?_
  refine WP.perm (h' := [[bkB bb lb (.slice va0 (ct0.L).length cap0) m ((0 : Nat) : Int)], [(m, mapO (Value.int .i64) A0 ck0)], row0]) (k := []) (pm fun a_ => by (try simp only [List.flatten_append, List.flatten_cons, List.flatten_nil, List.append_nil, List.cons_append, List.nil_append, List.append_assoc, nOf_app, nOf_cons, nOf_nil, Nat.add_zero, Nat.zero_add, List.map_append, List.map_cons, List.map_nil, cel, sv]); first | done | omega) ?_
  refine WP.seq <| WP.region <| v0 (S0.move rfl) rfl <| ?_
  refine vcd (S1.callF rfl (bnum_ok (s := s) (a := 0) (by omega) (Nat.zero_le _) hn) take0) rfl ?_
  refine v0 (S0.move rfl) rfl <| v0 (S0.extract rfl rfl) rfl <| v0 (S0.extract rfl rfl) rfl <| v0 (S0.assign rfl) rfl <| v0 (S0.assign rfl) rfl <| vE <| WP.seq <| WP.region <| v0 (S0.move rfl) rfl <| v0 (S0.move rfl) rfl <| v0 (S0.nilCheck rfl) rfl <| v0 (S0.fieldAddr rfl) rfl <| vs (S1.store rfl rfl (by first | rfl | exact IsSl.cv (by assumption))) <| vE <| WP.seq <| WP.region <| v0 (S0.move rfl) rfl <| v0 (S0.move rfl) rfl <| ?_
  refine vc (S1.callF rfl (mcut_spec (s := s) (a := a1) (by omega) ha1) take0) rfl ?_
  rintro _ _ ⟨mv, mrow, rfl, hsM, rfl⟩
  refine app ?_
  rw [hp3]
  generalize (cutM s a1).1 = M at hsM hsort hrd0 hBM
  generalize (cutM s a1).2.1.toNat = a2 at hp hp3 hn2
  obtain ⟨hris, hmb, hlM⟩ := sortedM_iff.1 hsort
  obtain ⟨ma, mcap, rfl, hmcap, hmrow⟩ := IsSl.elems (k := 1) enM_len hsM
  refine v0 (S0.move rfl) rfl <| v0 (S0.extract rfl rfl) rfl <| v0 (S0.extract rfl rfl) rfl <| v0 (S0.extract rfl rfl) rfl <| v0 (S0.assign rfl) rfl <| v0 (S0.assign rfl) rfl <| v0 (S0.assign rfl) rfl <| vE <| WP.seq <| WP.region <| v0 (S0.move rfl) rfl <| v0 (S0.cmp rfl rfl rfl) rfl <| ?_
  refine vcd (S1.callF rfl (must_ok (by simpa using hb0)) take0) rfl ?_
  refine vE <| WP.seq <| WP.seq <| WP.region <| v0 (S0.move rfl) rfl <| v0 (S0.lenSl rfl) rfl <| v0 (S0.move rfl) rfl <| vE <| WP.block <| ?_
  refine WP.loop (fun st : Nat × ML Int × Nat => st.1 ≤ M.length ∧ MkA st.2.1 st.2.2 (M.take st.1)) (fun st : Nat × ML Int × Nat => [(0, ptrB bb), (1, sv s), (5, .int .i64 (a2 : Int)), (36, .slice ma M.length mcap), (37, .int .i64 (M.length : Int)), (38, .int .i64 (st.1 : Int))]) (fun st : Nat × ML Int × Nat => [[bkB bb lb (.slice va0 (ct0.L).length cap0) m (n : Int)], [(m, mapO (Value.int .i64) st.2.1 st.2.2)], row0, mrow]) (fun st : Nat × ML Int × Nat => M.length - st.1) ((0, A0, ck0)) (⟨Nat.zero_le _, hA0⟩) ⟨rfl, rfl, rfl, rfl, rfl, rfl, trivial⟩ ⟨[], (pm fun a_ => by (try simp only [List.flatten_append, List.flatten_cons, List.flatten_nil, List.append_nil, List.cons_append, List.nil_append, List.append_assoc, nOf_app, nOf_cons, nOf_nil, Nat.add_zero, Nat.zero_add, List.map_append, List.map_cons, List.map_nil, cel, sv, bkB]); first | done | omega)⟩ (fun st hinv => ?_)
  obtain ⟨k, A, ck⟩ := st
  obtain ⟨hk, hA⟩ := hinv
  dsimp only at hk hA ⊢
  refine WP.seq <| WP.region <| v0 (S0.cmp rfl rfl rfl) rfl <| vE <| WP.seq <| ?_
  first | refine WP.condP rfl (fun h1 => ?_) (fun h1 => ?_) | refine WP.condN rfl (fun h1 => ?_) (fun h1 => ?_) | refine WP.cond rfl (fun h1 => ?_) (fun h1 => ?_)
  · have hlt : k < M.length := by omega
    rcases hmrow with ⟨rfl, -⟩ | ⟨b1, sp1, rfl, rfl, hsp1⟩
    · simp at hlt
    have hx : M[k]? = some M[k] := by simp [hlt]
    generalize M[k] = x at hx
    have hA2 := hA.put x
    rw [setMk_end (ris_before hris hx), show M.take k ++ [x] = M.take (k + 1) by rw [List.take_add_one, hx]; rfl] at hA2
    refine WP.skip <| WP.seq <| WP.block <| WP.seq <| WP.region <| ?_
    refine v0 (S0.indexN (k := 2) rfl rfl hlt) rfl <| ?_
    refine v0 (S0.loadA rfl (flat_take enM_len sp1 M k x hx) rfl) rfl <| ?_
    refine vn (S1.alloc) rfl fun b9 => vs (S1.storeA rfl rfl rfl) <| vE <| WP.drawP [(0, none), (1, none), (2, none), (3, none), (4, none), (5, none), (6, none), (7, none), (8, none)] mixed (by kernel_rfl) (by kernel_rfl) (by kernel_rfl) (take1 at0 (take1 at0 take0)) <| w0 rfl rfl rfl (S0.move rfl) rfl <| w0 rfl rfl rfl (S0.nilCheck rfl) rfl <| w0 rfl rfl rfl (S0.fieldAddr rfl) rfl <| w0 rfl rfl rfl (S0.load rfl rfl) rfl <| w0 rfl rfl rfl (S0.fieldAddr rfl) rfl <| w0 rfl rfl rfl (S0.load rfl rfl) rfl <| w0 rfl rfl rfl (S0.fieldAddr rfl) rfl <| w0 rfl rfl rfl (S0.load rfl rfl) rfl <| ?_
    refine ws rfl rfl rfl rfl (S1.mapUpdate (ek := Value.int .i64) (k := x.1) rfl rfl rfl) <| ?_
    refine wE <| WP.region <| v0 (S0.ari rfl rfl rfl (wrap_i64 (by omega))) rfl <| v0 (S0.move rfl) rfl <| vE <| ?_
    exact ⟨(k + 1, putM A ck x.1 (.int .i64 x.2), clkM A ck x.1), (by first | exact ⟨hlt, hA2⟩ | (dsimp only; exact ⟨hlt, hA2⟩)), (show M.length - (k + 1) < M.length - k by omega), ⟨⟨rfl, rfl, rfl, rfl, rfl, rfl, trivial⟩, rfl, rfl⟩, ⟨_, (take1 (atS at0) (take1 (atS at0) (take1 (atS at0) (take1 (atS at0) take0))))⟩⟩
  · have e : k = M.length := by omega
    rw [e, List.take_length] at hA
    have hMs := hA.ms
    clear hA0 h1 hk
    refine WP.exit <| WP.seq <| WP.region <| v0 (S0.move rfl) rfl <| v0 (S0.move rfl) rfl <| ?_
    refine vcd (S1.callF rfl (bnum_ok (s := s) (a := a2) (by omega) hp hn2) take0) rfl ?_
    refine v0 (S0.move rfl) rfl <| v0 (S0.extract rfl rfl) rfl <| v0 (S0.extract rfl rfl) rfl <| v0 (S0.assign rfl) rfl <| v0 (S0.assign rfl) rfl <| vE <| WP.seq <| WP.region <| v0 (S0.move rfl) rfl <| v0 (S0.cmp rfl rfl rfl) rfl <| ?_
    refine vcd (S1.callF rfl (must_ok (by simp; omega)) take0) rfl ?_
    refine vE <| WP.seq <| WP.region <| v0 (S0.assign rfl) rfl <| vE <| WP.seq <| WP.seq <| WP.region <| v0 (S0.move rfl) rfl <| v0 (S0.move rfl) rfl <| vE <| WP.block <| ?_
    refine WP.loop (fun st : Nat × List (Nat × Ev) × Nat × Nat × Value × List Blk => st.1 ≤ many ∧ st.2.1.length = st.1 ∧ (∀ x ∈ st.2.1, rightE x.2 = true ∧ x.1 ≤ n) ∧ st.2.2.2.1 ≤ s.length ∧ some (B.L, s.length) = readL s M n (many - st.1) st.2.1 st.2.2.1 st.2.2.2.1 ∧ IsSl 102 6 st.2.2.2.2.1 (st.2.1.flatMap enN) st.2.2.2.2.2) (fun st : Nat × List (Nat × Ev) × Nat × Nat × Value × List Blk => [(0, ptrB bb), (1, sv s), (5, .int .i64 (st.2.2.2.1 : Int)), (11, .int .i64 (st.2.2.1 : Int)), (60, .int .i64 (many : Int)), (61, .int .i64 (st.1 : Int))]) (fun st : Nat × List (Nat × Ev) × Nat × Nat × Value × List Blk => [[bkB bb lb st.2.2.2.2.1 m (n : Int)], [(m, mapO (Value.int .i64) A ck)], st.2.2.2.2.2]) (fun st : Nat × List (Nat × Ev) × Nat × Nat × Value × List Blk => many - st.1) ((0, [], 0, a3, .slice va0 (ct0.L).length cap0, row0)) (⟨Nat.zero_le _, rfl, by simp, ha3, hrd0.symm, hs0⟩) ⟨rfl, rfl, rfl, rfl, rfl, rfl, trivial⟩ ⟨_, (take1 at0 (take1 at0 (take1 at0 take0)))⟩ (fun st hinv => ?_)
    obtain ⟨j, L, last, at_, v, row⟩ := st
    obtain ⟨hj, hL, hev, hat, hrd, hsl⟩ := hinv
    dsimp only at hj hL hev hat hrd hsl ⊢
    obtain ⟨va, cap, rfl, -, -⟩ := IsSl.elems (k := 5) enN_len hsl
    have hfl : (L.flatMap enN).length = L.length * 6 := flat_len enN_len _
    refine WP.seq <| WP.region <| v0 (S0.cmp rfl rfl rfl) rfl <| vE <| WP.seq <| ?_
    first | refine WP.condP rfl (fun h2 => ?_) (fun h2 => ?_) | refine WP.condN rfl (fun h2 => ?_) (fun h2 => ?_) | refine WP.cond rfl (fun h2 => ?_) (fun h2 => ?_)
    · have hlt : j < many := by omega
      rw [show many - j = (many - (j + 1)) + 1 by omega, readL] at hrd
      cases hn3 : numK s at_ with
      | none => rw [hn3] at hrd; cases hrd
      | some y =>
        obtain ⟨p, to⟩ := y
        obtain ⟨hto, hpm⟩ := numK_le hn3
        rw [hn3] at hrd
        dsimp only at hrd
        have hq : (getE s to).2.2 = 0 ∧ last < p ∧ p ≤ n ∧ 0 < (getE s to).1.e ∧ (getE s to).1.s ≤ (mkO M (getE s to).1.o).getD 0 := by
          split at hrd
          · assumption
          · cases hrd
        rw [if_pos hq] at hrd
        obtain ⟨q1, q2, q3, q4, q5⟩ := hq
        obtain ⟨g1, g2, g3⟩ := getE_ok hto q1
        have hev2 : ∀ x ∈ L ++ [(p, (getE s to).1)], rightE x.2 = true ∧ x.1 ≤ n := fun x hx => by
          rcases List.mem_append.1 hx with hx | hx
          · exact hev x hx
          · simp at hx; subst hx; exact ⟨g1, q3⟩
        have hspec := eget_spec (s := s) (a := to) hs hto
        rw [q1, g2] at hspec
        generalize (getE s to).2.1.toNat = en at hrd g3 hspec
        generalize (getE s to).1 = ev at hrd q4 q5 g1 hev2 hspec
        refine WP.skip <| WP.seq <| WP.block <| WP.seq <| WP.region <| v0 (S0.move rfl) rfl <| v0 (S0.move rfl) rfl <| ?_
        refine vcd (S1.callF rfl (bnum_ok (s := s) (a := at_) (by omega) hat hn3) take0) rfl ?_
        refine v0 (S0.move rfl) rfl <| v0 (S0.extract rfl rfl) rfl <| v0 (S0.extract rfl rfl) rfl <| v0 (S0.assign rfl) rfl <| v0 (S0.assign rfl) rfl <| vE <| WP.seq <| WP.region <| v0 (S0.move rfl) rfl <| v0 (S0.move rfl) rfl <| ?_
        refine vcd (S1.callF rfl (hspec) take0) rfl ?_
        refine v0 (S0.move rfl) rfl <| v0 (S0.extract rfl rfl) rfl <| v0 (S0.extract rfl rfl) rfl <| v0 (S0.extract rfl rfl) rfl <| vn (S1.alloc) rfl fun b14 => vs (S1.storeA rfl rfl rfl) <| v0 (S0.assign rfl) rfl <| v0 (S0.assign rfl) rfl <| vE <| WP.seq <| WP.drawP [(0, none), (1, none), (2, none), (3, none), (4, none), (5, none), (6, none), (7, none), (8, none), (9, none), (10, none), (11, none), (12, none), (13, none), (14, none), (15, none), (16, none), (17, none), (18, none), (19, none), (20, none), (21, none), (22, none), (23, none), (24, none), (25, none), (26, none), (27, none), (28, none), (29, none), (30, none), (31, none), (32, none)] mixed (by kernel_rfl) (by kernel_rfl) (by kernel_rfl) (take1 at0 (take1 at0 (take1 at0 take0))) <| w0 rfl rfl rfl (S0.move rfl) rfl <| w0 rfl rfl rfl (S0.cmp rfl rfl rfl) rfl <| w0 rfl rfl rfl (S0.move rfl) rfl <| ?_
        refine wcsTh (t := 78) rfl (rfl) ?_
        refine w0 rfl rfl rfl (S0.move rfl) rfl <| w0 rfl rfl rfl (S0.move rfl) rfl <| w0 rfl rfl rfl (S0.cmp rfl rfl rfl) rfl <| w0 rfl rfl rfl (S0.pickT rfl rfl) rfl <| w0 rfl rfl rfl (S0.move rfl) rfl <| ?_
        refine wcsTh (t := 83) rfl ((by simp; omega)) ?_
        refine w0 rfl rfl rfl (S0.move rfl) rfl <| w0 rfl rfl rfl (S0.move rfl) rfl <| w0 rfl rfl rfl (S0.nilCheck rfl) rfl <| w0 rfl rfl rfl (S0.fieldAddr rfl) rfl <| w0 rfl rfl rfl (S0.load rfl rfl) rfl <| w0 rfl rfl rfl (S0.cmp rfl rfl rfl) rfl <| w0 rfl rfl rfl (S0.pickT rfl rfl) rfl <| w0 rfl rfl rfl (S0.move rfl) rfl <| ?_
        refine wcsTh (t := 91) rfl ((by simp; omega)) ?_
        refine w0 rfl rfl rfl (S0.fieldAddr rfl) rfl <| w0 rfl rfl rfl (S0.load rfl rfl) rfl <| w0 rfl rfl rfl (S0.cmp rfl rfl rfl) rfl <| w0 rfl rfl rfl (S0.pickT rfl rfl) rfl <| w0 rfl rfl rfl (S0.move rfl) rfl <| ?_
        refine wcsTh (t := 96) rfl ((by simp; omega)) ?_
        refine w0 rfl rfl rfl (S0.fieldAddr rfl) rfl <| w0 rfl rfl rfl (S0.load rfl rfl) rfl <| w0 rfl rfl rfl (S0.move rfl) rfl <| w0 rfl rfl rfl (S0.nilCheck rfl) rfl <| w0 rfl rfl rfl (S0.fieldAddr rfl) rfl <| w0 rfl rfl rfl (S0.load rfl rfl) rfl <| w0 rfl rfl rfl (S0.fieldAddr rfl) rfl <| w0 rfl rfl rfl (S0.load rfl rfl) rfl <| ?_
        refine w0 rfl rfl rfl (S0.lookupV (ek := Value.int .i64) (k := ev.o) (v := .int .i64 ((mkO M ev.o).getD 0)) rfl rfl (by rw [hMs, mk_getD])) rfl <| ?_
        refine w0 rfl rfl rfl (S0.cmp rfl rfl rfl) rfl <| w0 rfl rfl rfl (S0.pickT rfl rfl) rfl <| ?_
        refine wcd rfl rfl rfl rfl (S1.callF rfl (must_ok (by simpa using q5)) take0) rfl ?_
        refine wE <| WP.seq <| WP.drawP [(0, none), (1, none), (2, none), (3, none), (4, none), (5, none), (6, none), (7, none), (8, none), (9, none), (10, none), (11, none), (12, none)] mixed (by kernel_rfl) (by kernel_rfl) (by kernel_rfl) (take1 at0 (take1 at0 (take1 at0 take0))) <| w0 rfl rfl rfl (S0.move rfl) rfl <| w0 rfl rfl rfl (S0.move rfl) rfl <| w0 rfl rfl rfl (S0.nilCheck rfl) rfl <| w0 rfl rfl rfl (S0.fieldAddr rfl) rfl <| w0 rfl rfl rfl (S0.load rfl rfl) rfl <| w0 rfl rfl rfl (S0.move rfl) rfl <| w0 rfl rfl rfl (S0.loadAL rfl) rfl <| w0 rfl rfl rfl (S0.build rfl (qs := [(0, _), (1, _)]) rfl) rfl <| wnv rfl rfl rfl rfl (S1.buildSlice rfl (qs := [(0, _)]) rfl rfl) rfl fun b117 => ?_
        refine we rfl rfl rfl rfl (S1.appendL rfl hsl rfl rfl (atS at0) rfl rfl (by rw [hfl]; simp; omega)) rfl ?_
        rintro v2 _ ⟨row2, hs2, rfl⟩
        refine w0 rfl rfl rfl (S0.nilCheck rfl) rfl <| w0 rfl rfl rfl (S0.fieldAddr rfl) rfl <| ?_
        refine wlast rfl (by kernel_rfl) rfl rfl (S1.store rfl rfl hs2.cv) ?_
        refine WP.region <| v0 (S0.move rfl) rfl <| v0 (S0.move rfl) rfl <| v0 (S0.assign rfl) rfl <| v0 (S0.assign rfl) rfl <| vE <| WP.region <| v0 (S0.ari rfl rfl rfl (wrap_i64 (by omega))) rfl <| v0 (S0.move rfl) rfl <| vE <| ?_
        exact ⟨(j + 1, L ++ [(p, ev)], p, en, v2, row2), (by first | exact ⟨hlt, by simp; omega, hev2, g3, hrd, by rw [List.flatMap_append]; exact hs2⟩ | (dsimp only; exact ⟨hlt, by simp; omega, hev2, g3, hrd, by rw [List.flatMap_append]; exact hs2⟩)), (show many - (j + 1) < many - j by omega), ⟨⟨rfl, rfl, rfl, rfl, rfl, rfl, trivial⟩, rfl, rfl⟩, ⟨_, (take1 (atS at0) (take1 (atS at0) (take1 (atS at0) take0)))⟩⟩
    · have hjm : j = many := by omega
      rw [hjm, Nat.sub_self, readL] at hrd
      simp only [Option.some.injEq, Prod.mk.injEq] at hrd
      obtain ⟨rfl, rfl⟩ := hrd
      refine WP.exit <| WP.region <| v0 (S0.move rfl) rfl <| v0 (S0.move rfl) rfl <| v0 (S0.lenSt rfl) rfl <| v0 (S0.cmp rfl rfl rfl) rfl <| ?_
      refine vcd (S1.callF rfl (must_ok (by simp)) take0) rfl ?_
      refine vE <| ?_
      refine Leaves.drop (h' := [bkB bb lb (.slice va B.L.length cap) m (n : Int) :: (m, mapO (Value.int .i64) A ck) :: row]) (k := []) (pm fun a_ => by (try simp only [List.flatten_append, List.flatten_cons, List.flatten_nil, List.append_nil, List.cons_append, List.nil_append, List.append_assoc, nOf_app, nOf_cons, nOf_nil, Nat.add_zero, Nat.zero_add, List.map_append, List.map_cons, List.map_nil, cel, sv]); first | done | omega) ?_
      refine r0 rfl ?_
      refine ⟨_, ⟨by rw [hBM]; exact hsort, by omega, by rw [hBn]; exact hev⟩, by omega, ⟨_, row, m, A, ck, hsl, by rw [hBM]; exact hA, by rw [hBn]⟩, rfl⟩
theorem bredo_spec {bb lb : Nat} {b : Ct} {cc : List Blk} (h : IsCt bb lb b cc) (ho : CtW b) (hn : b.n ≤ 4000000000000) {s : Str} (hs : s.length ≤ 900000) : FX Tryz.prog 41 [ptrB bb, sv s] [cc]
    (fun _ h => ∃ b' cc', redoK b s = some b' ∧ CtW b' ∧ b'.n ≤ b.n + 1 ∧ IsCt bb lb b' cc' ∧ h = [cc']) (fun v _ => redoK b s = none ∧ v = errF) := by
  refine FX.intro 64 [(0, ptrB bb), (1, sv s)] Tryz.func41 rfl (enters Tryz.func41 (by kernel_rfl) rfl) Tryz.ntmps41 rfl rfl ?_
  refine WP.seq <| WP.region <| v0 (S0.move rfl) rfl <| v0 (S0.cmpS rfl rfl rfl) rfl <| ?_
  refine vcX rfl (must_spec _) take0 rfl ?_ ?_
  · rintro _ _ ⟨hb, rfl, rfl⟩; exact ⟨rfl, _, rfl, by have e : s = [] := (by simpa using hb); rw [e]; rfl, rfl⟩
  rintro _ _ ⟨hb, rfl, rfl⟩
  refine app ?_
  cases s with
  | nil => simp at hb
  | cons c s =>
    clear hb
    have er : redoK b (c :: s) = if c = 80 then (if (getE (c :: s) 1).2.2 = 0 ∧ (getE (c :: s) 1).2.1 = ((c :: s).length : Int) ∧ whyK b (getE (c :: s) 1).1 = 0 then some (addK b (getE (c :: s) 1).1) else none) else if c = 84 then (match numK (c :: s) 1 with | none => none | some (n, to) => if to = (c :: s).length ∧ 1 ≤ n ∧ n ≤ 1000 then some (ageK b (n : Int)) else none) else none := rfl
    have hc80 : ((c.toNat : Int) = 80) ↔ c = 80 := by
      constructor
      · intro e; apply UInt8.toNat_inj.1; show c.toNat = 80; omega
      · rintro rfl; rfl
    have hc84 : ((c.toNat : Int) = 84) ↔ c = 84 := by
      constructor
      · intro e; apply UInt8.toNat_inj.1; show c.toNat = 84; omega
      · rintro rfl; rfl
    have h1s : 1 ≤ (c :: s).length := by simp
    generalize hS : c :: s = S at er hs h1s
    have hx0 : S[0]? = some c := by rw [← hS]; rfl
    clear hS
    refine vE <| WP.seq <| WP.region <| v0 (S0.move rfl) rfl <| ?_
    refine v0 (S0.indexSt (i := 0) rfl rfl hx0) rfl <| ?_
    refine vE <| WP.block <| WP.seq <| WP.region <| v0 (S0.cmp rfl rfl rfl) rfl <| v0 (S0.assign rfl) rfl <| vE <| ?_
    first | refine WP.condP rfl (fun h1 => ?_) (fun h1 => ?_) | refine WP.condN rfl (fun h1 => ?_) (fun h1 => ?_) | refine WP.cond rfl (fun h1 => ?_) (fun h1 => ?_)
    · rw [if_pos (hc80.1 h1)] at er
      have hspec := eget_spec (s := S) (a := 1) hs h1s
      have hok := getE_ok (s := S) (a := 1) h1s
      generalize getE S 1 = G at er hspec hok
      obtain ⟨ev, en, ee⟩ := G
      dsimp only at er hspec hok
      refine WP.seq <| WP.region <| v0 (S0.move rfl) rfl <| ?_
      refine vcd (S1.callF rfl (hspec) take0) rfl ?_
      refine v0 (S0.move rfl) rfl <| v0 (S0.extract rfl rfl) rfl <| v0 (S0.extract rfl rfl) rfl <| v0 (S0.extract rfl rfl) rfl <| vn (S1.alloc) rfl fun b4 => vs (S1.storeA rfl rfl rfl) <| v0 (S0.assign rfl) rfl <| v0 (S0.assign rfl) rfl <| vE <| WP.seq <| WP.region <| v0 (S0.move rfl) rfl <| v0 (S0.cmp rfl rfl rfl) rfl <| v0 (S0.move rfl) rfl <| ?_
      first | refine csP (t := 25) rfl (fun h2 => ?_) (fun h2 => ?_) | refine csN (t := 25) rfl (fun h2 => ?_) (fun h2 => ?_) | refine cs (t := 25) rfl (fun h2 => ?_) (fun h2 => ?_)
      · have h20 : ee = 0 := by simpa using h2
        obtain ⟨g1, g2, g3⟩ := hok h20
        obtain ⟨t1, t2⟩ := right_tl g1
        refine gT rfl <| v0 (S0.move rfl) rfl <| gT rfl <| v0 (S0.move rfl) rfl <| gT rfl <| v0 (S0.lenSt rfl) rfl <| gT rfl <| v0 (S0.cmp rfl rfl rfl) rfl <| v0 (S0.pickT rfl rfl) rfl <| v0 (S0.move rfl) rfl <| ?_
        first | refine csP (t := 31) rfl (fun h3 => ?_) (fun h3 => ?_) | refine csN (t := 31) rfl (fun h3 => ?_) (fun h3 => ?_) | refine cs (t := 31) rfl (fun h3 => ?_) (fun h3 => ?_)
        · refine gT rfl <| v0 (S0.move rfl) rfl <| gT rfl <| v0 (S0.loadAL rfl) rfl <| ?_
          refine gT rfl <| vcd (S1.callF rfl (bwhy_spec h ho (e := ev) (by omega)) (take1 (atS at0) take0)) rfl ?_
          refine gT rfl <| v0 (S0.cmp rfl rfl rfl) rfl <| v0 (S0.pickT rfl rfl) rfl <| ?_
          refine vcX rfl (must_spec _) take0 rfl ?_ ?_
          · rintro _ _ ⟨hb, rfl, rfl⟩; exact ⟨rfl, _, rfl, by rw [er, if_neg (fun q => by rw [q.2.2] at hb; cases hb)], rfl⟩
          rintro _ _ ⟨hb, rfl, rfl⟩
          refine app ?_
          have hw : whyK b ev = 0 := by simpa using hb
          rw [if_pos ⟨h20, by omega, hw⟩] at er
          refine vE <| WP.region <| v0 (S0.move rfl) rfl <| v0 (S0.loadAL rfl) rfl <| ?_
          refine vc (S1.callF rfl (badd_spec h ho hn ev) (take1 at0 take0)) rfl ?_
          rintro _ _ ⟨cc2, hc2, rfl⟩
          refine app ?_
          refine vE <| ?_
          refine Leaves.drop (take1 at0 take0) ?_
          refine r0 rfl ?_
          exact ⟨_, cc2, er, ho.add hw, Nat.le_refl _, hc2, rfl⟩
        · refine gF rfl rfl <| gF rfl rfl <| gF rfl rfl <| gF rfl rfl <| v0 (S0.pickF rfl rfl) rfl <| ?_
          refine vcX rfl (must_spec _) take0 rfl ?_ ?_
          · rintro _ _ ⟨hb, rfl, rfl⟩; exact ⟨rfl, _, rfl, by rw [er, if_neg (fun q => h3 (by rw [q.2.1]))], rfl⟩
          rintro _ _ ⟨hb, rfl, rfl⟩
          refine app ?_
          cases hb
      · refine gF rfl rfl <| gF rfl rfl <| gF rfl rfl <| gF rfl rfl <| v0 (S0.pickF rfl rfl) rfl <| v0 (S0.move rfl) rfl <| gF rfl rfl <| gF rfl rfl <| gF rfl rfl <| gF rfl rfl <| v0 (S0.pickF rfl rfl) rfl <| ?_
        refine vcX rfl (must_spec _) take0 rfl ?_ ?_
        · rintro _ _ ⟨hb, rfl, rfl⟩; exact ⟨rfl, _, rfl, by rw [er, if_neg (fun q => h2 (by rw [q.1]))], rfl⟩
        rintro _ _ ⟨hb, rfl, rfl⟩
        refine app ?_
        cases hb
    · rw [if_neg (fun q => h1 (hc80.2 q))] at er
      refine WP.seq <| WP.region <| v0 (S0.cmp rfl rfl rfl) rfl <| v0 (S0.assign rfl) rfl <| vE <| ?_
      first | refine WP.condP rfl (fun h2 => ?_) (fun h2 => ?_) | refine WP.condN rfl (fun h2 => ?_) (fun h2 => ?_) | refine WP.cond rfl (fun h2 => ?_) (fun h2 => ?_)
      · rw [if_pos (hc84.1 h2)] at er
        refine WP.seq <| WP.region <| v0 (S0.move rfl) rfl <| ?_
        refine vcX rfl (bnum_spec (s := S) (a := 1) (by omega) h1s) take0 rfl ?_ ?_
        · rintro _ _ ⟨hn2, rfl, rfl⟩; exact ⟨rfl, _, rfl, by rw [er, hn2], rfl⟩
        rintro _ _ ⟨n, to, hn2, rfl, rfl⟩
        refine app ?_
        rw [hn2] at er
        dsimp only at er
        refine v0 (S0.move rfl) rfl <| v0 (S0.extract rfl rfl) rfl <| v0 (S0.extract rfl rfl) rfl <| v0 (S0.assign rfl) rfl <| v0 (S0.assign rfl) rfl <| vE <| WP.seq <| WP.region <| v0 (S0.move rfl) rfl <| v0 (S0.move rfl) rfl <| v0 (S0.lenSt rfl) rfl <| v0 (S0.cmp rfl rfl rfl) rfl <| v0 (S0.move rfl) rfl <| ?_
        first | refine csP (t := 52) rfl (fun h3 => ?_) (fun h3 => ?_) | refine csN (t := 52) rfl (fun h3 => ?_) (fun h3 => ?_) | refine cs (t := 52) rfl (fun h3 => ?_) (fun h3 => ?_)
        · refine gT rfl <| v0 (S0.move rfl) rfl <| gT rfl <| v0 (S0.cmp rfl rfl rfl) rfl <| v0 (S0.pickT rfl rfl) rfl <| v0 (S0.move rfl) rfl <| ?_
          first | refine csP (t := 56) rfl (fun h4 => ?_) (fun h4 => ?_) | refine csN (t := 56) rfl (fun h4 => ?_) (fun h4 => ?_) | refine cs (t := 56) rfl (fun h4 => ?_) (fun h4 => ?_)
          · refine gT rfl <| v0 (S0.move rfl) rfl <| gT rfl <| v0 (S0.cmp rfl rfl rfl) rfl <| v0 (S0.pickT rfl rfl) rfl <| ?_
            refine vcX rfl (must_spec _) take0 rfl ?_ ?_
            · rintro _ _ ⟨hb, rfl, rfl⟩; exact ⟨rfl, _, rfl, by rw [er, if_neg (fun q => by simp at hb; omega)], rfl⟩
            rintro _ _ ⟨hb, rfl, rfl⟩
            refine app ?_
            have hn1000 : n ≤ 1000 := by simp at hb; omega
            rw [if_pos ⟨by omega, by omega, hn1000⟩] at er
            refine vE <| WP.region <| v0 (S0.move rfl) rfl <| v0 (S0.move rfl) rfl <| ?_
            refine vc (S1.callF rfl (bage_spec h ho (n := (n : Int)) (by omega)) (take1 at0 take0)) rfl ?_
            rintro _ _ ⟨cc2, hc2, rfl⟩
            refine app ?_
            refine vE <| ?_
            refine r0 rfl ?_
            exact ⟨_, cc2, er, ho.age _, Nat.le_succ _, hc2, rfl⟩
          · refine gF rfl rfl <| gF rfl rfl <| v0 (S0.pickF rfl rfl) rfl <| ?_
            refine vcX rfl (must_spec _) take0 rfl ?_ ?_
            · rintro _ _ ⟨hb, rfl, rfl⟩; exact ⟨rfl, _, rfl, by rw [er, if_neg (fun q => by omega)], rfl⟩
            rintro _ _ ⟨hb, rfl, rfl⟩
            refine app ?_
            cases hb
        · refine gF rfl rfl <| gF rfl rfl <| v0 (S0.pickF rfl rfl) rfl <| v0 (S0.move rfl) rfl <| gF rfl rfl <| gF rfl rfl <| v0 (S0.pickF rfl rfl) rfl <| ?_
          refine vcX rfl (must_spec _) take0 rfl ?_ ?_
          · rintro _ _ ⟨hb, rfl, rfl⟩; exact ⟨rfl, _, rfl, by rw [er, if_neg (fun q => by omega)], rfl⟩
          rintro _ _ ⟨hb, rfl, rfl⟩
          refine app ?_
          cases hb
      · rw [if_neg (fun q => h2 (hc84.2 q))] at er
        refine WP.region <| ?_
        refine vcX rfl (must_spec _) take0 rfl ?_ ?_
        · rintro _ _ ⟨hb, rfl, rfl⟩; exact ⟨rfl, _, rfl, er, rfl⟩
        rintro _ _ ⟨hb, rfl, rfl⟩
        refine app ?_
        cases hb
end Go.Proofs.YtjpjebfodhbdfaaGreatDoor
namespace Go.Proofs.YtjpjebfodhbdfaaGreatDoor
open Go
section
variable {P : Program} {f : Fr} {d : Option Tmp} {ty : TypeId} {p : String} {af : Array Edge} {gd : Option (Nat × Bool)}
theorem run_equalInI0 {T : TypeId} {ms} (hu : P.underlying T = some (.interface ms)) (n : Nat) (w : World) : (Op.equalIn (n + 1) T .nilIface .nilIface).run P w = .ok true w := by
  simp only [Op.equalIn, Sem.run_bind, run_underlying hu, Result.andThen_ok, Sem.run_pure]
theorem run_equalInI1 {T : TypeId} {ms} (hu : P.underlying T = some (.interface ms)) (t : TypeId) (u : Value) (n : Nat) (w : World) : (Op.equalIn (n + 1) T (.iface t u) .nilIface).run P w = .ok false w := by
  simp only [Op.equalIn, Sem.run_bind, run_underlying hu, Result.andThen_ok, Sem.run_pure]
theorem S0.neqNilI {T U : TypeId} {SL : List Blk} {x : Operand} {v : Value} {q : Bool} {ms} (hu : P.underlying T = some (.interface ms)) (hx : ev f x = some v) (hv : (v = .nilIface ∧ q = false) ∨ (∃ t u, v = .iface t u) ∧ q = true) : S0 P f SL ⟨d, .binOp .neq T x (.const .nilIface) U, ty, p, af, gd⟩ (.bool q) :=
  S0.pure (by intro c; simp) (by intro c; simp) fun ρ w k' => by
    have hy : ρ (.const .nilIface) = .nilIface := k' (.const .nilIface) .nilIface rfl
    rcases hv with ⟨rfl, rfl⟩ | ⟨⟨t, u, rfl⟩, rfl⟩
    · have e1 : (Op.equal T .nilIface .nilIface).run P w = .ok true w := run_equalInI0 hu 9999 w
      simp [execOp, k' _ _ hx, hy, eqGuard, binOp, e1]
    · have e1 : (Op.equal T (.iface t u) .nilIface).run P w = .ok false w := run_equalInI1 hu t u 9999 w
      simp [execOp, k' _ _ hx, hy, eqGuard, binOp, e1]
end
abbrev out2 (b2 b3 : Nat) (v : Value) (e : Int) : Hp := [[(b2, cel [v] 32)], [(b3, cel [.int .i64 e] 33)]]
theorem open1_held {b2 b3 : Nat} {v : Value} {e : Int} : DC Tryz.prog 37 [ptrB b2, ptrB b3] (held errF false) (held errF true) (out2 b2 b3 v e) (out2 b2 b3 (.pointer none) 4) := by
  refine DC.recover Tryz.func37 rfl rfl (Rec.held errF) rfl rfl rfl ?_
  show WP _ _ _ _ ⟨6, [(2, errF), (3, errF), (0, ptrB b2), (1, ptrB b3)], []⟩ _
  refine WP.seq <| WP.region <| v0 (S0.move rfl) rfl <| ?_
  refine v0 (S0.neqNilI Tryz.underlying20 rfl (.inr ⟨⟨_, _, rfl⟩, rfl⟩)) rfl <| ?_
  refine vE <| ?_
  refine WP.condTh rfl (rfl) ?_
  refine WP.region <| vs (S1.store rfl rfl (by first | rfl | exact IsSl.cv (by assumption))) <| vs (S1.store rfl rfl (by first | rfl | exact IsSl.cv (by assumption))) <| vE <| ?_
  exact ⟨.inl rfl, rfl, List.Perm.refl _⟩
theorem open1_ret {b2 b3 : Nat} {v : Value} {e : Int} : DC Tryz.prog 37 [ptrB b2, ptrB b3] .returning .returning (out2 b2 b3 v e) (out2 b2 b3 v e) := by
  refine DC.recover Tryz.func37 rfl rfl (Rec.ret) rfl rfl rfl ?_
  show WP _ _ _ _ ⟨6, [(2, .nilIface), (3, .nilIface), (0, ptrB b2), (1, ptrB b3)], []⟩ _
  refine WP.seq <| WP.region <| v0 (S0.move rfl) rfl <| ?_
  refine v0 (S0.neqNilI Tryz.underlying20 rfl (.inl ⟨rfl, rfl⟩)) rfl <| ?_
  refine vE <| ?_
  refine WP.condFh rfl (rfl) ?_
  refine WP.skip <| ?_
  exact ⟨.inl rfl, rfl, List.Perm.refl _⟩
abbrev dcl (b2 b3 : Nat) : List Deferred := [{ target := .fn (.func 37) ⟨[ptrB b2, ptrB b3]⟩, args := ⟨[]⟩ }]
theorem open_pan {fn : Func} {post : Value → Hp → Prop} {n : Nat} {sl : List (Nat × Value)} {h hr : Hp} {dc : List Blk} {b2 b3 : Nat} {v0 : Value} {e0 : Int} (hres : fn.results.toList = [.cell 2 32, .cell 3 33]) (h2 : look 2 sl = some (ptrB b2)) (h3 : look 3 sl = some (ptrB b3))
    (hp : h.flatten.Perm ((out2 b2 b3 v0 e0).flatten ++ (dc :: hr).flatten)) (hpost : ∀ j : List Blk, post (.tuple ⟨[.pointer none, .int .i64 4]⟩) [dc, j]) : RetR2 Tryz.prog fn 37 post (.panic [{ v := errF, recovered := false }]) ⟨n, sl, dcl b2 b3⟩ h := by
  refine .inl ⟨[ptrB b2, ptrB b3], rfl, errF, out2 b2 b3 v0 e0, out2 b2 b3 (.pointer none) 4, dc :: hr, rfl, hp, open1_held, ?_⟩
  refine Leaves.drop (h' := [dc, (out2 b2 b3 (.pointer none) 4).flatten]) (k := hr) (pm fun a_ => by (try simp only [List.flatten_append, List.flatten_cons, List.flatten_nil, List.append_nil, List.cons_append, List.nil_append, List.append_assoc, nOf_app, nOf_cons, nOf_nil, Nat.add_zero, Nat.zero_add, List.map_append, List.map_cons, List.map_nil, cel, sv]); first | done | omega) ?_
  exact rc2 hres h2 (load_sca (l := [.pointer none]) (U := 32) (fz := (0, 0)) (by simp) rfl) h3 (load_sca (l := [.int .i64 4]) (U := 33) (fz := (0, 0)) (by simp) rfl) (hpost _)
theorem open_ret {fn : Func} {post : Value → Hp → Prop} {n : Nat} {sl : List (Nat × Value)} {h hr : Hp} {cc lc dc : List Blk} {b2 b3 bb : Nat} (hres : fn.results.toList = [.cell 2 32, .cell 3 33]) (h2 : look 2 sl = some (ptrB b2)) (h3 : look 3 sl = some (ptrB b3))
    (hp : h.flatten.Perm ((out2 b2 b3 (ptrB bb) 0).flatten ++ (cc :: lc :: dc :: hr).flatten)) (hpost : ∀ j : List Blk, post (.tuple ⟨[ptrB bb, .int .i64 0]⟩) [cc, lc, dc, j]) : RetR2 Tryz.prog fn 37 post .ret ⟨n, sl, dcl b2 b3⟩ h := by
  refine .inl ⟨[ptrB b2, ptrB b3], rfl, out2 b2 b3 (ptrB bb) 0, out2 b2 b3 (ptrB bb) 0, cc :: lc :: dc :: hr, hp, open1_ret, ?_⟩
  refine Leaves.drop (h' := [cc, lc, dc, (out2 b2 b3 (ptrB bb) 0).flatten]) (k := hr) (pm fun a_ => by (try simp only [List.flatten_append, List.flatten_cons, List.flatten_nil, List.append_nil, List.cons_append, List.nil_append, List.append_assoc, nOf_app, nOf_cons, nOf_nil, Nat.add_zero, Nat.zero_add, List.map_append, List.map_cons, List.map_nil, cel, sv]); first | done | omega) ?_
  exact rc2 hres h2 (load_sca (l := [ptrB bb]) (U := 32) (fz := (0, 0)) (by simp) rfl) h3 (load_sca (l := [.int .i64 0]) (U := 33) (fz := (0, 0)) (by simp) rfl) (hpost _)
theorem wopen2_spec {db : Nat} {D : Dk} {dc : List Blk} (hd : IsDisk db D dc) (hk : DkG D) (hW : D.W.length ≤ 900000) : FN Tryz.prog 36 [ptrB db] [dc] (fun u h => ∃ lv lc dc', u = .tuple ⟨[lv, .int .i64 (openLg D).1]⟩ ∧ (((openLg D).1 ≠ 0 ∧ lv = .pointer none ∧ dc' = dc) ∨ ((openLg D).1 = 0 ∧ ∃ lb, lv = ptrB lb ∧ IsLog lb db (openLg D).2.1 lc ∧ IsDisk db (openLg D).2.2 dc')) ∧ h = [lc, dc']) :=
  (wopen_spec hd hk hW).lets fun u h q => by
    rcases q with ⟨e, rfl, rfl⟩ | ⟨e, lb, lc, dc', hl, hd', rfl, rfl⟩
    · exact ⟨[[], dc], [], ⟨_, [], dc, rfl, .inl ⟨e, rfl, rfl⟩, rfl⟩, by simp⟩
    · exact ⟨[lc, dc'], [], ⟨_, lc, dc', by rw [e], .inr ⟨e, lb, rfl, hl, hd'⟩, rfl⟩, by simp⟩
theorem openLg_ok {D : Dk} (hk : DkG D) : LgOk (openLg D).2.1 ∧ (openLg D).2.1.st.length ≤ 65536 ∧ ∀ x ∈ (openLg D).2.1.l, x.length ≤ 65536 := by
  obtain ⟨hrd, hst⟩ := head_le (hk.ok.now 0)
  obtain ⟨hal, han⟩ := allB_le (D.now.get 1)
  obtain ⟨hrl, hrn⟩ := recs_le (headB (D.now.get 0)).1 _ hal
  have hn1 := hk.ok.now 1
  unfold openLg
  split
  · exact ⟨⟨by simp, by simp⟩, by simp, by simp⟩
  · exact ⟨⟨by dsimp only; omega, by dsimp only; omega⟩, hst, hrl⟩
def OpenP (db : Nat) (D : Dk) (u : Value) (h : Hp) : Prop :=
  ((openBk D).1 ≠ 0 ∧ u = .tuple ⟨[.pointer none, .int .i64 (openBk D).1]⟩ ∧ ∃ dc', IsDisk db (openBk D).2.2 dc' ∧ h = [dc']) ∨
  ((openBk D).1 = 0 ∧ ∃ b G bb lb cc lc dc', (openBk D).2.1 = some (b, G) ∧ CtW b ∧ b.n ≤ 2000000000000 ∧ LgOk G ∧ IsCt bb lb b cc ∧ IsLog lb db G lc ∧ IsDisk db (openBk D).2.2 dc' ∧ u = .tuple ⟨[ptrB bb, .int .i64 0]⟩ ∧ h = [cc, lc, dc'])
theorem bopen_spec {db : Nat} {D : Dk} {dc : List Blk} (hd : IsDisk db D dc) (hk : DkG D) (hW : D.W.length ≤ 900000) (hst : (openLg D).1 = 0 → (openLg D).2.1.st = [] ∨ ∃ B, readK (openLg D).2.1.st = some B) : FN Tryz.prog 11 [ptrB db] [dc] (OpenP db D) := by
  refine FN.lets (post := fun u h => ∃ h0 j, OpenP db D u h0 ∧ h = h0 ++ [j]) ?_ (fun u h ⟨h0, j, hp, e⟩ => ⟨h0, [j], hp, by rw [e]; simp⟩)
  obtain ⟨hlg, hstl, hll⟩ := openLg_ok hk
  refine FN.introR2 (k := 37) 41 [(0, ptrB db)] Tryz.func11 rfl (enters Tryz.func11 (by kernel_rfl) rfl) (enters Tryz.func37 (by kernel_rfl) rfl) Tryz.ntmps11 rfl rfl ?_
  refine WP.seq <| WP.region <| vn (S1.alloc) rfl fun b2 => vn (S1.alloc) rfl fun b3 => vE <| WP.seq <| WP.region <| v0 (S0.move rfl) rfl <| ?_
  refine vc (S1.callF rfl (wopen2_spec hd hk hW) (take1 (atS (atS at0)) take0)) rfl ?_
  rintro _ _ ⟨lv, lc, dc2, rfl, hq, rfl⟩
  refine app ?_
  refine v0 (S0.move rfl) rfl <| v0 (S0.extract rfl rfl) rfl <| v0 (S0.extract rfl rfl) rfl <| v0 (S0.assign rfl) rfl <| vs (S1.store rfl rfl (by first | rfl | exact IsSl.cv (by assumption))) <| vE <| WP.seq <| WP.seq <| WP.region <| v0 (S0.load rfl rfl) rfl <| v0 (S0.cmp rfl rfl rfl) rfl <| vE <| ?_
  first | refine WP.condP rfl (fun h1 => ?_) (fun h1 => ?_) | refine WP.condN rfl (fun h1 => ?_) (fun h1 => ?_) | refine WP.cond rfl (fun h1 => ?_) (fun h1 => ?_)
  · have hbk : openBk D = ((openLg D).1, none, D) := by unfold openBk; rw [if_pos h1]
    rcases hq with ⟨-, rfl, rfl⟩ | ⟨he, -⟩
    · refine WP.seq <| WP.drawP [(0, none), (1, none), (2, none)] mixed (by kernel_rfl) (by kernel_rfl) (by kernel_rfl) (take1 (atS (atS at0)) take0) <| w0 rfl rfl rfl (S0.load rfl rfl) rfl <| ws rfl rfl rfl rfl (S1.store rfl rfl (by first | rfl | exact IsSl.cv (by assumption))) <| ?_
      refine wlast rfl (by kernel_rfl) rfl rfl (S1.store rfl rfl rfl) ?_
      refine WP.ret <| ?_
      refine .inr ⟨rfl, Leaves.drop (h' := [dc2, [(b2, cel [.pointer none] 32), (b3, cel [.int .i64 (openLg D).1] 33)]]) (k := [lc]) (pm fun a_ => by (try simp only [List.flatten_append, List.flatten_cons, List.flatten_nil, List.append_nil, List.cons_append, List.nil_append, List.append_assoc, nOf_app, nOf_cons, nOf_nil, Nat.add_zero, Nat.zero_add, List.map_append, List.map_cons, List.map_nil, cel, sv]); first | done | omega) ?_⟩
      refine rc2 rfl rfl (load_sca (l := [.pointer none]) (U := 32) (fz := (0, 0)) (by simp) rfl) rfl (load_sca (l := [.int .i64 (openLg D).1]) (U := 33) (fz := (0, 0)) (by simp) rfl) ?_
      exact ⟨[dc2], _, .inl ⟨by rw [hbk]; exact h1, by rw [hbk], dc2, by rw [hbk]; exact hd, rfl⟩, rfl⟩
    · exact absurd he h1
  · have he : (openLg D).1 = 0 := by simpa using h1
    rcases hq with ⟨hne, -⟩ | ⟨-, lb, rfl, hl, hd2⟩
    · exact absurd he hne
    have hst2 := hst he
    have hbk : openBk D = match bookOf (openLg D).2.1.st (openLg D).2.1.l with | none => (4, none, (openLg D).2.2) | some b => (0, some (b, (openLg D).2.1), (openLg D).2.2) := by unfold openBk; rw [if_neg (by rw [he]; simp)]; cases bookOf (openLg D).2.1.st (openLg D).2.1.l <;> rfl
    rw [he]
    generalize (openLg D).2.1 = G at hl hst2 hlg hstl hll hbk
    generalize (openLg D).2.2 = D2 at hd2 hbk
    refine WP.skip <| WP.seq <| WP.region <| v0 (S0.makeFunc rfl rfl) rfl <| ?_
    refine WO.defer rfl rfl ?_
    refine vE <| WP.seq <| WP.region <| v0 (S0.move rfl) rfl <| vnv (S1.makeMap) rfl fun b19 => v0 (S0.build rfl (qs := [(0, _), (2, _)]) rfl) rfl <| vn (S1.box rfl rfl) rfl fun b21 => v0 (S0.assign rfl) rfl <| vE <| WP.seq <| WP.seq <| WP.region <| v0 (S0.move rfl) rfl <| ?_
    have hct0 : IsCt b21 lb ct0 [bkB b21 lb (.slice none 0 0) b19 0, (b19, mapO (Value.int .i64) [] 0)] := ⟨_, [], b19, [], 0, IsSl.nil, MkA.nil, rfl⟩
    refine vcd (S1.callF rfl (wstate_spec hl) (take1 (atS (atS at0)) take0)) rfl ?_
    refine v0 (S0.assign rfl) rfl <| vE <| WP.seq <| WP.region <| v0 (S0.move rfl) rfl <| v0 (S0.cmpS rfl rfl rfl) rfl <| vE <| ?_
    refine WP.cutT (fun q : Ct × List Blk => (if G.st = [] then some ct0 else readK G.st) = some q.1 ∧ CtW q.1 ∧ q.1.n ≤ 1099511627776 ∧ IsCt b21 lb q.1 q.2) (fun q : Ct × List Blk => [(2, ptrB b2), (3, ptrB b3), (4, ptrB lb), (5, ptrB b21)]) (fun q : Ct × List Blk => [q.2, lc, dc2, [(b3, cel [.int .i64 0] 33)], [(b2, cel [.pointer none] 32)]]) ?_ (fun q hinv => ?_)
    · -- (nothing to walk: cond)
      first | refine WP.condP rfl (fun h2 => ?_) (fun h2 => ?_) | refine WP.condN rfl (fun h2 => ?_) (fun h2 => ?_) | refine WP.cond rfl (fun h2 => ?_) (fun h2 => ?_)
      · obtain ⟨B, hB⟩ := hst2.resolve_left (by simpa using h2)
        refine WP.region <| v0 (S0.move rfl) rfl <| v0 (S0.move rfl) rfl <| ?_
        refine WO.perm (h' := [[bkB b21 lb (.slice none 0 0) b19 0, (b19, mapO (Value.int .i64) [] 0)], lc, dc2, [(b3, cel [.int .i64 0] 33)], [(b2, cel [.pointer none] 32)]]) (k := []) (pm fun a_ => by (try simp only [List.flatten_append, List.flatten_cons, List.flatten_nil, List.append_nil, List.cons_append, List.nil_append, List.append_assoc, nOf_app, nOf_cons, nOf_nil, Nat.add_zero, Nat.zero_add, List.map_append, List.map_cons, List.map_nil, cel, sv, nilE, mapO, bkB, ptrB]); first | done | omega) ?_
        refine vc (S1.callF rfl (bread_spec hct0 (s := G.st) (by omega) hB) (take1 at0 take0)) rfl ?_
        rintro _ _ ⟨cc2, hw, hn, hc, rfl⟩
        refine app ?_
        refine vE <| ?_
        exact ⟨(B, cc2), (by first | exact ⟨by rw [if_neg (by simpa using h2), hB], hw, hn, hc⟩ | (dsimp only; exact ⟨by rw [if_neg (by simpa using h2), hB], hw, hn, hc⟩)), ⟨⟨rfl, rfl, rfl, rfl, trivial⟩, rfl, rfl⟩, ⟨_, (take1 at0 (take1 at0 (take1 at0 (take1 at0 (take1 at0 take0)))))⟩⟩
      · refine WP.skip <| ?_
        exact ⟨(ct0, [bkB b21 lb (.slice none 0 0) b19 0, (b19, mapO (Value.int .i64) [] 0)]), (by first | exact ⟨by rw [if_pos (by simpa using h2)], CtOk.nil.w, by simp, hct0⟩ | (dsimp only; exact ⟨by rw [if_pos (by simpa using h2)], CtOk.nil.w, by simp, hct0⟩)), ⟨⟨rfl, rfl, rfl, rfl, trivial⟩, rfl, rfl⟩, ⟨[], (pm fun a_ => by (try simp only [List.flatten_append, List.flatten_cons, List.flatten_nil, List.append_nil, List.cons_append, List.nil_append, List.append_assoc, nOf_app, nOf_cons, nOf_nil, Nat.add_zero, Nat.zero_add, List.map_append, List.map_cons, List.map_nil, cel, sv, nilE, mapO, bkB, ptrB]); first | done | omega)⟩⟩
    obtain ⟨B0, cc0⟩ := q
    obtain ⟨hB0, hw0, hn0, hc0⟩ := hinv
    dsimp only at hB0 hw0 hn0 hc0 ⊢
    have hlr := hlg.l
    have hbo : bookOf G.st G.l = redosK G.l B0 := by unfold bookOf; rw [hB0]
    refine WP.seq <| WP.seq <| WP.region <| v0 (S0.move rfl) rfl <| ?_
    refine vc (S1.callF rfl (wrecords_spec hl hlg) (take1 (atS at0) take0)) rfl ?_
    rintro rv _ ⟨rrow, hrs, rfl⟩
    refine app ?_
    obtain ⟨ra, rcap, rfl, hrcap, hrrow⟩ := hrs.strsE
    refine v0 (S0.lenSl rfl) rfl <| v0 (S0.move rfl) rfl <| vE <| WP.block <| ?_
    refine WP.loop (fun st : Nat × Ct × List Blk => st.1 ≤ G.l.length ∧ redosK G.l B0 = redosK (G.l.drop st.1) st.2.1 ∧ CtW st.2.1 ∧ st.2.1.n ≤ 1099511627776 + st.1 ∧ IsCt b21 lb st.2.1 st.2.2) (fun st : Nat × Ct × List Blk => [(2, ptrB b2), (3, ptrB b3), (5, ptrB b21), (30, .slice ra G.l.length rcap), (31, .int .i64 (G.l.length : Int)), (32, .int .i64 (st.1 : Int))]) (fun st : Nat × Ct × List Blk => [st.2.2, rrow, lc, dc2, [(b3, cel [.int .i64 0] 33)], [(b2, cel [.pointer none] 32)]]) (fun st : Nat × Ct × List Blk => G.l.length - st.1) ((0, B0, cc0)) (⟨Nat.zero_le _, rfl, hw0, hn0, hc0⟩) ⟨rfl, rfl, rfl, rfl, rfl, rfl, trivial⟩ ⟨[], (pm fun a_ => by (try simp only [List.flatten_append, List.flatten_cons, List.flatten_nil, List.append_nil, List.cons_append, List.nil_append, List.append_assoc, nOf_app, nOf_cons, nOf_nil, Nat.add_zero, Nat.zero_add, List.map_append, List.map_cons, List.map_nil, cel, sv]); first | done | omega)⟩ (fun st hinv => ?_)
    obtain ⟨k, b, cc⟩ := st
    obtain ⟨hk, hrd, hw, hn, hc⟩ := hinv
    dsimp only at hk hrd hw hn hc ⊢
    refine WP.seq <| WP.region <| v0 (S0.cmp rfl rfl rfl) rfl <| vE <| WP.seq <| ?_
    first | refine WP.condP rfl (fun h2 => ?_) (fun h2 => ?_) | refine WP.condN rfl (fun h2 => ?_) (fun h2 => ?_) | refine WP.cond rfl (fun h2 => ?_) (fun h2 => ?_)
    · have hlt : k < G.l.length := by omega
      have hx : G.l[k]? = some G.l[k] := by simp [hlt]
      have hxl := hll _ (List.getElem_mem hlt)
      have hdr : G.l.drop k = G.l[k] :: G.l.drop (k + 1) := List.drop_eq_getElem_cons hlt
      generalize G.l[k] = x at hx hxl hdr
      rw [hdr, redosK] at hrd
      rcases hrrow with ⟨e, -⟩ | ⟨b1, sp1, rfl, rfl, hsp1⟩
      · rw [e] at hlt; simp at hlt
      refine WP.skip <| WP.seq <| WP.block <| WP.seq <| WP.region <| ?_
      refine v0 (S0.index1 rfl rfl hlt) rfl <| ?_
      refine v0 (S0.load rfl (strs_get hx)) rfl <| ?_
      refine v0 (S0.assign rfl) rfl <| vE <| WP.region <| v0 (S0.move rfl) rfl <| v0 (S0.move rfl) rfl <| ?_
      refine vcX rfl (bredo_spec hc hw (by omega) (s := x) (by omega)) (take1 at0 take0) rfl ?_ ?_
      · rintro v hq ⟨hno, rfl⟩; exact open_pan (dc := dc2) (v0 := .pointer none) (e0 := 0) (hr := hq ++ [[(b1, .cells ⟨strs G.l ++ sp1⟩ 9 (0, 0))], lc]) rfl rfl rfl (pm fun a_ => by (try simp only [List.flatten_append, List.flatten_cons, List.flatten_nil, List.append_nil, List.cons_append, List.nil_append, List.append_assoc, nOf_app, nOf_cons, nOf_nil, Nat.add_zero, Nat.zero_add, List.map_append, List.map_cons, List.map_nil, cel, sv]); first | done | omega) (fun j => ⟨[dc2], j, .inl ⟨by rw [hbk, hbo, hrd, hno]; show (4 : Int) ≠ 0; decide, by rw [hbk, hbo, hrd, hno], dc2, by rw [hbk, hbo, hrd, hno]; exact hd2, rfl⟩, rfl⟩)
      rintro _ _ ⟨b', cc', hre, hw', hn', hc', rfl⟩
      refine app ?_
      rw [hre] at hrd
      dsimp only at hrd
      refine vE <| WP.region <| v0 (S0.ari rfl rfl rfl (wrap_i64 (by omega))) rfl <| v0 (S0.move rfl) rfl <| vE <| ?_
      exact ⟨(k + 1, b', cc'), (by first | exact ⟨hlt, hrd, hw', by omega, hc'⟩ | (dsimp only; exact ⟨hlt, hrd, hw', by omega, hc'⟩)), (show G.l.length - (k + 1) < G.l.length - k by omega), ⟨⟨rfl, rfl, rfl, rfl, rfl, rfl, trivial⟩, rfl, rfl⟩, ⟨_, (take1 at0 (take1 at0 (take1 at0 (take1 at0 (take1 at0 (take1 at0 take0))))))⟩⟩
    · have e : k = G.l.length := by omega
      rw [e, List.drop_length, redosK] at hrd
      rw [hrd] at hbo
      rw [hbo] at hbk
      dsimp only at hbk
      refine WP.exit <| WP.seq <| WP.region <| v0 (S0.move rfl) rfl <| vs (S1.store rfl rfl (by first | rfl | exact IsSl.cv (by assumption))) <| vs (S1.store rfl rfl (by first | rfl | exact IsSl.cv (by assumption))) <| vE <| WP.ret <| ?_
      exact open_ret (cc := cc) (lc := lc) (dc := dc2) (hr := [rrow]) rfl rfl rfl (pm fun a_ => by (try simp only [List.flatten_append, List.flatten_cons, List.flatten_nil, List.append_nil, List.cons_append, List.nil_append, List.append_assoc, nOf_app, nOf_cons, nOf_nil, Nat.add_zero, Nat.zero_add, List.map_append, List.map_cons, List.map_nil, cel, sv]); first | done | omega) (fun j => ⟨[cc, lc, dc2], j, .inr ⟨by rw [hbk], b, G, b21, lb, cc, lc, dc2, by rw [hbk], hw, by omega, hlg, hc, hl, by rw [hbk]; exact hd2, rfl, rfl⟩, rfl⟩)
end Go.Proofs.YtjpjebfodhbdfaaGreatDoor
namespace Go.Proofs.YtjpjebfodhbdfaaGreatDoor
open Go
theorem checkLg_ok {G : Lg} {D : Dk} {s : Str} (h1 : G.rd ≤ 1900000000000) (h2 : G.l.length ≤ 800000) : LgOk (checkLg G D s).2.1 := by
  unfold checkLg
  split
  · exact ⟨by dsimp only; omega, by dsimp only; omega⟩
  · exact ⟨by dsimp only; omega, by simp⟩
structure Rooms (b : Ct) (G : Lg) (D : Dk) : Prop where
  w : CtW b
  n : b.n ≤ 3000000000000
  rd : G.rd ≤ 1900000000000
  l : G.l.length ≤ 800000
  k : DkG D
  W : D.W.length ≤ 800000
theorem Rooms.lg {b : Ct} {G : Lg} {D : Dk} (h : Rooms b G D) : LgOk G := ⟨by have := h.rd; omega, by have := h.l; omega⟩
theorem bnote_spec {bb lb db : Nat} {b : Ct} {G : Lg} {D : Dk} {cc lc dc : List Blk} (hr : Rooms b G D) (hc : IsCt bb lb b cc) (hl : IsLog lb db G lc) (hd : IsDisk db D dc) (s : Str) : FN Tryz.prog 50 [ptrB bb, sv s] [cc, lc, dc]
    (fun _ h => ∃ lc' dc', IsLog lb db (noteK b G D s).1 lc' ∧ IsDisk db (noteK b G D s).2 dc' ∧ h = [cc, lc', dc']) := by
  have hc0 := hc
  have hn := hr.n
  have hW := hr.W
  have hlr := hr.l
  obtain ⟨v, row, m, A, ck, hs, hA, rfl⟩ := hc
  generalize hC : (m, mapO (Value.int .i64) A ck) :: row = C at hc0
  refine FN.intro 24 [(0, ptrB bb), (1, sv s)] Tryz.func50 rfl (enters Tryz.func50 (by kernel_rfl) rfl) Tryz.ntmps50 rfl rfl ?_
  refine WP.seq <| WP.seq <| WP.region <| v0 (S0.move rfl) rfl <| v0 (S0.nilCheck rfl) rfl <| v0 (S0.fieldAddr rfl) rfl <| v0 (S0.load rfl rfl) rfl <| ?_
  refine vc (S1.callF rfl (wrecords_spec hl hr.lg) (take1 (atS at0) take0)) rfl ?_
  rintro rv _ ⟨rrow, hrs, rfl⟩
  refine app ?_
  obtain ⟨ra, rcap, rfl, hrcap, -⟩ := hrs.strsE
  refine v0 (S0.lenSl rfl) rfl <| v0 (S0.cmp rfl rfl rfl) rfl <| vE <| ?_
  first | refine WP.condP rfl (fun h1 => ?_) (fun h1 => ?_) | refine WP.condN rfl (fun h1 => ?_) (fun h1 => ?_) | refine WP.cond rfl (fun h1 => ?_) (fun h1 => ?_)
  · have e : noteK b G D s = (appendLg (checkLg G D (bytesK b)).2.1 (checkLg G D (bytesK b)).2.2 s).2 := by unfold noteK; rw [if_pos (by omega)]
    have hcW := checkLg_W G D (bytesK b)
    refine WP.drawP [(0, none), (1, none), (2, none), (3, none), (4, none), (5, none), (6, none)] mixed (by kernel_rfl) (by kernel_rfl) (by kernel_rfl) (take1 (atS (atS at0)) take0) <| w0 rfl rfl rfl (S0.move rfl) rfl <| w0 rfl rfl rfl (S0.nilCheck rfl) rfl <| w0 rfl rfl rfl (S0.fieldAddr rfl) rfl <| w0 rfl rfl rfl (S0.load rfl rfl) rfl <| w0 rfl rfl rfl (S0.move rfl) rfl <| ?_
    refine wcS rfl rfl rfl rfl (S1.callF rfl (bbytes_spec hc0 hr.w (by omega)) (take1 at0 take0)) rfl (take1 at0 take0) ?_
    refine wc rfl rfl rfl rfl (S1.callF rfl (wcheck_spec hl hr.lg hd hr.k (by omega) (bytesK b)) (take1 (atS at0) (take1 (atS at0) take0))) rfl ?_
    rintro _ _ ⟨lc2, dc2, hl2, hd2, rfl, rfl⟩
    refine wapp ?_
    refine wE <| WP.region <| v0 (S0.move rfl) rfl <| v0 (S0.nilCheck rfl) rfl <| v0 (S0.fieldAddr rfl) rfl <| v0 (S0.load rfl rfl) rfl <| v0 (S0.move rfl) rfl <| ?_
    refine vc (S1.callF rfl (wappend_spec hl2 (checkLg_ok hr.rd hr.l) hd2 (checkLg_DkG hr.k _).ok (by omega) s) (take1 (atS at0) (take1 (atS at0) take0))) rfl ?_
    rintro _ _ ⟨lc3, dc3, hl3, hd3, rfl, rfl⟩
    refine app ?_
    refine vE <| ?_
    refine Leaves.drop (take1 (atS (atS at0)) (take1 at0 (take1 at0 take0))) ?_
    refine r0 rfl ?_
    rw [e]; exact ⟨lc3, dc3, hl3, hd3, rfl⟩
  · have e : noteK b G D s = (appendLg G D s).2 := by unfold noteK; rw [if_neg (by omega)]
    refine WP.skip <| WP.region <| v0 (S0.move rfl) rfl <| v0 (S0.nilCheck rfl) rfl <| v0 (S0.fieldAddr rfl) rfl <| v0 (S0.load rfl rfl) rfl <| v0 (S0.move rfl) rfl <| ?_
    refine vc (S1.callF rfl (wappend_spec hl hr.lg hd hr.k.ok (by omega) s) (take1 (atS at0) (take1 (atS (atS at0)) take0))) rfl ?_
    rintro _ _ ⟨lc3, dc3, hl3, hd3, rfl, rfl⟩
    refine app ?_
    refine vE <| ?_
    refine Leaves.drop (take1 (atS (atS (atS at0))) (take1 at0 (take1 at0 take0))) ?_
    refine r0 rfl ?_
    rw [e]; exact ⟨lc3, dc3, hl3, hd3, rfl⟩
theorem bput_spec {bb lb db : Nat} {b : Ct} {G : Lg} {D : Dk} {cc lc dc : List Blk} (hr : Rooms b G D) (hc : IsCt bb lb b cc) (hl : IsLog lb db G lc) (hd : IsDisk db D dc) {e : Ev} (ht : e.t.length ≤ 900000) (hel : e.l.length ≤ 900000) : FN Tryz.prog 14 [ptrB bb, .agg ⟨evB e⟩] [cc, lc, dc]
    (fun u h => ∃ cc' lc' dc', u = .int .i64 (putBk b G D e).1 ∧ IsCt bb lb (putBk b G D e).2.1 cc' ∧ IsLog lb db (putBk b G D e).2.2.1 lc' ∧ IsDisk db (putBk b G D e).2.2.2 dc' ∧ h = [cc', lc', dc']) := by
  have hn := hr.n
  refine FN.intro 20 [(0, ptrB bb), (1, .agg ⟨evB e⟩)] Tryz.func14 rfl (enters Tryz.func14 (by kernel_rfl) rfl) Tryz.ntmps14 rfl rfl ?_
  refine WP.seq <| WP.region <| vn (S1.box rfl rfl) rfl fun b3 => v0 (S0.assign rfl) rfl <| vE <| WP.seq <| WP.seq <| WP.region <| v0 (S0.move rfl) rfl <| v0 (S0.loadAL rfl) rfl <| ?_
  refine vcd (S1.callF rfl (bwhy_spec hc hr.w (e := e) ht) (take1 (atS at0) take0)) rfl ?_
  refine v0 (S0.assign rfl) rfl <| vE <| WP.seq <| WP.region <| v0 (S0.move rfl) rfl <| v0 (S0.cmp rfl rfl rfl) rfl <| vE <| ?_
  first | refine WP.condP rfl (fun h1 => ?_) (fun h1 => ?_) | refine WP.condN rfl (fun h1 => ?_) (fun h1 => ?_) | refine WP.cond rfl (fun h1 => ?_) (fun h1 => ?_)
  · have ep : putBk b G D e = (whyK b e, b, G, D) := by unfold putBk; rw [if_pos h1]
    refine WP.seq <| WP.region <| v0 (S0.move rfl) rfl <| v0 (S0.assign rfl) rfl <| vE <| WP.ret <| ?_
    refine Leaves.drop (take1 at0 (take1 (atS at0) (take1 (atS at0) take0))) ?_
    refine r1 rfl rfl ?_
    rw [ep]; exact ⟨cc, lc, dc, rfl, hc, hl, hd, rfl⟩
  · have hw : whyK b e = 0 := by simpa using h1
    have ep : putBk b G D e = (0, addK b e, noteK b G D (putR e)) := by unfold putBk; rw [if_neg (by simpa using h1)]
    have hpe := putE_le (why_zero hw).1
    refine WP.skip <| WP.seq <| WP.region <| v0 (S0.move rfl) rfl <| v0 (S0.loadAL rfl) rfl <| ?_
    refine vcd (S1.callF rfl (eput_spec (e := e) ht hel) take0) rfl ?_
    refine v0 (S0.addS (a := [80]) rfl rfl (by simp; omega)) rfl <| ?_
    refine vc (S1.callF rfl (bnote_spec hr hc hl hd (putR e)) (take1 at0 (take1 (atS at0) (take1 (atS at0) take0)))) rfl ?_
    rintro _ _ ⟨lc2, dc2, hl2, hd2, rfl⟩
    refine app ?_
    refine vE <| WP.seq <| WP.region <| v0 (S0.move rfl) rfl <| v0 (S0.loadAL rfl) rfl <| ?_
    refine vc (S1.callF rfl (badd_spec hc hr.w (by omega) e) (take1 at0 take0)) rfl ?_
    rintro _ _ ⟨cc2, hc2, rfl⟩
    refine app ?_
    refine vE <| WP.seq <| WP.region <| v0 (S0.assign rfl) rfl <| vE <| WP.ret <| ?_
    refine Leaves.drop (take1 at0 (take1 at0 (take1 at0 take0))) ?_
    refine r1 rfl rfl ?_
    rw [ep]; exact ⟨cc2, lc2, dc2, rfl, hc2, hl2, hd2, rfl⟩
theorem btick_spec {bb lb db : Nat} {b : Ct} {G : Lg} {D : Dk} {cc lc dc : List Blk} (hr : Rooms b G D) (hc : IsCt bb lb b cc) (hl : IsLog lb db G lc) (hd : IsDisk db D dc) (n : Int) : FN Tryz.prog 16 [ptrB bb, .int .i64 n] [cc, lc, dc]
    (fun u h => ∃ cc' lc' dc', u = .int .i64 (tickBk b G D n).1 ∧ IsCt bb lb (tickBk b G D n).2.1 cc' ∧ IsLog lb db (tickBk b G D n).2.2.1 lc' ∧ IsDisk db (tickBk b G D n).2.2.2 dc' ∧ h = [cc', lc', dc']) := by
  refine FN.intro 20 [(0, ptrB bb), (1, .int .i64 n)] Tryz.func16 rfl (enters Tryz.func16 (by kernel_rfl) rfl) Tryz.ntmps16 rfl rfl ?_
  refine WP.seq <| WP.region <| v0 (S0.assign rfl) rfl <| vE <| WP.seq <| WP.seq <| WP.region <| v0 (S0.move rfl) rfl <| v0 (S0.cmp rfl rfl rfl) rfl <| v0 (S0.move rfl) rfl <| ?_
  first | refine csP (t := 7) rfl (fun h1 => ?_) (fun h1 => ?_) | refine csN (t := 7) rfl (fun h1 => ?_) (fun h1 => ?_) | refine cs (t := 7) rfl (fun h1 => ?_) (fun h1 => ?_)
  · have ep : tickBk b G D n = (1, b, G, D) := by unfold tickBk; rw [if_pos (by omega)]
    refine gF rfl rfl <| gF rfl rfl <| v0 (S0.pickT rfl rfl) rfl <| vE <| WP.condT rfl <| WP.seq <| WP.region <| v0 (S0.assign rfl) rfl <| vE <| WP.ret <| ?_
    refine r1 rfl rfl ?_
    rw [ep]; exact ⟨cc, lc, dc, rfl, hc, hl, hd, rfl⟩
  · refine gT rfl <| v0 (S0.move rfl) rfl <| gT rfl <| v0 (S0.cmp rfl rfl rfl) rfl <| v0 (S0.pickF rfl rfl) rfl <| vE <| ?_
    first | refine WP.condP rfl (fun h2 => ?_) (fun h2 => ?_) | refine WP.condN rfl (fun h2 => ?_) (fun h2 => ?_) | refine WP.cond rfl (fun h2 => ?_) (fun h2 => ?_)
    · have ep : tickBk b G D n = (1, b, G, D) := by unfold tickBk; rw [if_pos (by omega)]
      refine WP.seq <| WP.region <| v0 (S0.assign rfl) rfl <| vE <| WP.ret <| ?_
      refine r1 rfl rfl ?_
      rw [ep]; exact ⟨cc, lc, dc, rfl, hc, hl, hd, rfl⟩
    · have ep : tickBk b G D n = (0, ageK b n, noteK b G D (tickR n)) := by unfold tickBk; rw [if_neg (by omega)]
      have hpn := putV_le n.toNat
      refine WP.skip <| WP.seq <| WP.region <| v0 (S0.move rfl) rfl <| v0 (S0.move rfl) rfl <| v0 (S0.convI rfl (wrap_u64 (by omega))) rfl <| ?_
      rw [show Value.int .u64 n = .int .u64 ((n.toNat : Nat) : Int) by rw [Int.toNat_of_nonneg (by omega)]]
      refine vcd (S1.callF rfl (put_spec (n := n.toNat) (by omega)) take0) rfl ?_
      refine v0 (S0.addS (a := [84]) rfl rfl (by simp; omega)) rfl <| ?_
      refine vc (S1.callF rfl (bnote_spec hr hc hl hd (tickR n)) (take1 at0 (take1 at0 (take1 at0 take0)))) rfl ?_
      rintro _ _ ⟨lc2, dc2, hl2, hd2, rfl⟩
      refine app ?_
      refine vE <| WP.seq <| WP.region <| v0 (S0.move rfl) rfl <| v0 (S0.move rfl) rfl <| ?_
      refine vc (S1.callF rfl (bage_spec hc hr.w (n := n) (by omega)) (take1 at0 take0)) rfl ?_
      rintro _ _ ⟨cc2, hc2, rfl⟩
      refine app ?_
      refine vE <| WP.seq <| WP.region <| v0 (S0.assign rfl) rfl <| vE <| WP.ret <| ?_
      refine r1 rfl rfl ?_
      rw [ep]; exact ⟨cc2, lc2, dc2, rfl, hc2, hl2, hd2, rfl⟩
theorem bsync_spec {bb lb db : Nat} {b : Ct} {G : Lg} {D : Dk} {cc lc dc : List Blk} (hc : IsCt bb lb b cc) (hl : IsLog lb db G lc) (hd : IsDisk db D dc) : FN Tryz.prog 18 [ptrB bb] [cc, lc, dc]
    (fun _ h => ∃ lc' dc', IsLog lb db (syncLg G) lc' ∧ IsDisk db (syncK D) dc' ∧ h = [cc, lc', dc']) := by
  obtain ⟨v, row, m, A, ck, hs, hA, rfl⟩ := hc
  refine FN.intro 7 [(0, ptrB bb)] Tryz.func18 rfl (enters Tryz.func18 (by kernel_rfl) rfl) Tryz.ntmps18 rfl rfl ?_
  refine WP.region <| v0 (S0.move rfl) rfl <| v0 (S0.nilCheck rfl) rfl <| v0 (S0.fieldAddr rfl) rfl <| v0 (S0.load rfl rfl) rfl <| ?_
  refine vc (S1.callF rfl (wsync_spec hl hd) (take1 (atS at0) (take1 (atS at0) take0))) rfl ?_
  rintro _ _ ⟨lc2, dc2, hl2, hd2, rfl⟩
  refine app ?_
  refine vE <| ?_
  refine Leaves.drop (take1 (atS (atS at0)) (take1 at0 (take1 at0 take0))) ?_
  refine r0 rfl ?_
  exact ⟨lc2, dc2, hl2, hd2, rfl⟩
end Go.Proofs.YtjpjebfodhbdfaaGreatDoor
namespace Go.Proofs.YtjpjebfodhbdfaaGreatDoor
open Go
theorem reput_spec {e : Ev} (ht : e.t.length ≤ 900000) (hl : e.l.length ≤ 900000) : FN Tryz.prog 55 [.agg ⟨evB e⟩] [] (is (sv (putE e)) []) := by
  refine FN.quiet ?_
  refine FN.intro 28 [(0, .agg ⟨evB e⟩)] Tryz.func55 rfl (enters Tryz.func55 (by kernel_rfl) rfl) Tryz.ntmps55 rfl rfl ?_
  refine WP.seq <| WP.region <| vn (S1.box rfl rfl) rfl fun b1 => v0 (S0.assign rfl) rfl <| vE <| WP.seq <| WP.seq <| WP.region <| v0 (S0.loadAL rfl) rfl <| ?_
  refine vcd (S1.callF rfl (revRight_spec ht) take0) rfl ?_
  refine v0 (S0.not rfl) rfl <| vE <| ?_
  cases hr : rightE e with
  | false =>
    refine WP.condTh rfl (rfl) ?_
    refine WP.seq <| WP.region <| v0 (S0.assign rfl) rfl <| vE <| WP.ret <| ?_
    refine r1 rfl rfl ?_
    unfold putE; rw [if_neg (by rw [hr]; decide)]
  | true =>
    have hb := rightE_bd hr
    have hpt : putE e = putV e.o.toNat ++ putV e.s.toNat ++ putV e.e.toNat ++ textB e.t ++ textB e.l := by unfold putE; rw [if_pos hr]
    have h1 := putV_le e.o.toNat
    have h2 := putV_le e.s.toNat
    have h3 := putV_le e.e.toNat
    have h4 := putV_le e.t.length
    have h5 := putV_le e.l.length
    refine WP.condFh rfl (rfl) ?_
    refine WP.skip <| ?_
    refine WP.seq <| WP.drawP [(0, none), (1, none), (2, none), (4, none), (5, none), (6, none), (9, none), (10, none), (11, none), (14, none), (15, none), (18, none), (19, none), (3, none), (7, none), (8, none), (12, none), (13, none), (16, none), (17, none), (20, none), (21, none), (22, none)] mixed (by kernel_rfl) (by kernel_rfl) (by kernel_rfl) (take1 at0 take0) <| w0 rfl rfl rfl (S0.fieldAddr rfl) rfl <| w0 rfl rfl rfl (S0.load rfl rfl) rfl <| ?_
    rw [show e.o = ((e.o.toNat : Nat) : Int) by omega]
    refine w0 rfl rfl rfl (S0.convI rfl (wrap_u64 (by omega))) rfl <| w0 rfl rfl rfl (S0.fieldAddr rfl) rfl <| w0 rfl rfl rfl (S0.load rfl rfl) rfl <| ?_
    rw [show e.s = ((e.s.toNat : Nat) : Int) by omega]
    refine w0 rfl rfl rfl (S0.convI rfl (wrap_u64 (by omega))) rfl <| w0 rfl rfl rfl (S0.fieldAddr rfl) rfl <| w0 rfl rfl rfl (S0.load rfl rfl) rfl <| ?_
    rw [show e.e = ((e.e.toNat : Nat) : Int) by omega]
    refine w0 rfl rfl rfl (S0.convI rfl (wrap_u64 (by omega))) rfl <| w0 rfl rfl rfl (S0.fieldAddr rfl) rfl <| w0 rfl rfl rfl (S0.load rfl rfl) rfl <| w0 rfl rfl rfl (S0.fieldAddr rfl) rfl <| w0 rfl rfl rfl (S0.load rfl rfl) rfl <| ?_
    refine wcd rfl rfl rfl rfl (S1.callF rfl (rput_spec (n := e.o.toNat) (by omega)) take0) rfl ?_
    refine wcd rfl rfl rfl rfl (S1.callF rfl (rput_spec (n := e.s.toNat) (by omega)) take0) rfl ?_
    refine w0 rfl rfl rfl (S0.addS rfl rfl (by omega)) rfl <| ?_
    refine wcd rfl rfl rfl rfl (S1.callF rfl (rput_spec (n := e.e.toNat) (by omega)) take0) rfl ?_
    refine w0 rfl rfl rfl (S0.addS rfl rfl (by rw [List.length_append]; omega)) rfl <| ?_
    refine wcd rfl rfl rfl rfl (S1.callF rfl (rtext_spec (s := e.t) (by omega)) take0) rfl ?_
    refine w0 rfl rfl rfl (S0.addS rfl rfl (by simp only [List.length_append]; omega)) rfl <| ?_
    refine wcd rfl rfl rfl rfl (S1.callF rfl (rtext_spec (s := e.l) (by omega)) take0) rfl ?_
    refine w0 rfl rfl rfl (S0.addS rfl rfl (by simp only [List.length_append]; omega)) rfl <| ?_
    refine w0 rfl rfl rfl (S0.assign rfl) rfl <| wE <| WP.ret <| ?_
    refine r1 rfl rfl ?_
    rw [hpt]; rfl
theorem nums3 (s : Str) (a : Nat) : (numsV s a 3).2.2 = (numAt s a 3).2 ∧ ((numsV s a 3).2.2 = 0 → (numsV s a 3).2.1 = (numAt s a 3).1 ∧ (numsV s a 3).1 = [numIs s a 0, numIs s a 1, numIs s a 2]) := by
  have h : ∀ k, (numsV s a k).2.2 = (numAt s a k).2 ∧ ((numsV s a k).2.2 = 0 → (numsV s a k).2.1 = (numAt s a k).1 ∧ (numsV s a k).1 = (List.range k).map (numIs s a)) := by
    intro k
    induction k with
    | zero => exact ⟨rfl, fun _ => ⟨rfl, rfl⟩⟩
    | succ k ih =>
      obtain ⟨i1, i2⟩ := ih
      rw [numsV_step]
      by_cases h1 : (numsV s a k).2.2 ≠ 0
      · rw [if_pos h1]
        have : (numAt s a (k + 1)).2 = (numAt s a k).2 := by rw [numAt, rdN_bad (by rw [← i1]; exact h1)]
        rw [this]
        exact ⟨i1, fun h => absurd h h1⟩
      · rw [if_neg h1]
        have h0 : (numsV s a k).2.2 = 0 := by simpa using h1
        obtain ⟨j1, j2⟩ := i2 h0
        have e0 : (numAt s a k).2 = 0 := by rw [← i1]; exact h0
        have e1 : numAt s a (k + 1) = (rdN s (numsV s a k).2.1 0).2 := by rw [numAt, e0, j1]
        have e2 : numIs s a k = (rdN s (numsV s a k).2.1 0).1 := by rw [numIs, e0, j1]
        rw [e1]
        by_cases h2 : (rdN s (numsV s a k).2.1 0).2.2 ≠ 0
        · rw [if_pos h2]; exact ⟨rfl, fun h => absurd h h2⟩
        · rw [if_neg h2]
          have h20 : (rdN s (numsV s a k).2.1 0).2.2 = 0 := by simpa using h2
          refine ⟨by rw [h20], fun _ => ⟨rfl, ?_⟩⟩
          rw [j2, List.range_succ, List.map_append, ← e2]; rfl
  exact h 3
theorem rdT_bad {s : Str} {a : Nat} {bad : Int} (h : bad ≠ 0) : rdT s a bad = ([], a, bad) := by rw [rdT, if_pos h]
theorem reget_spec {s : Str} {a : Nat} (hs : s.length ≤ 900000) (ha : a ≤ s.length) : FN Tryz.prog 93 [sv s, .int .i64 (a : Int)] [] (is (.tuple ⟨[.agg ⟨evB (getE s a).1⟩, .int .i64 (getE s a).2.1, .int .i64 (getE s a).2.2]⟩) []) := by
  refine FN.quiet ?_
  obtain ⟨n1, n2⟩ := nums3 s a
  have hle := numAt_le ha 3
  have hg : getE s a = if (rdT s (rdT s (numAt s a 3).1 (numAt s a 3).2).2.1 (rdT s (numAt s a 3).1 (numAt s a 3).2).2.2).2.2 ≠ 0 then (ev0, 0, (rdT s (rdT s (numAt s a 3).1 (numAt s a 3).2).2.1 (rdT s (numAt s a 3).1 (numAt s a 3).2).2.2).2.2) else if rightE ⟨numIs s a 0, numIs s a 1, (rdT s (numAt s a 3).1 (numAt s a 3).2).1, (rdT s (rdT s (numAt s a 3).1 (numAt s a 3).2).2.1 (rdT s (numAt s a 3).1 (numAt s a 3).2).2.2).1, numIs s a 2⟩ = false then (ev0, 0, 4) else (⟨numIs s a 0, numIs s a 1, (rdT s (numAt s a 3).1 (numAt s a 3).2).1, (rdT s (rdT s (numAt s a 3).1 (numAt s a 3).2).2.1 (rdT s (numAt s a 3).1 (numAt s a 3).2).2.2).1, numIs s a 2⟩, ((rdT s (rdT s (numAt s a 3).1 (numAt s a 3).2).2.1 (rdT s (numAt s a 3).1 (numAt s a 3).2).2.2).2.1 : Int), 0) := rfl
  refine FN.intro 68 [(0, sv s), (1, .int .i64 (a : Int))] Tryz.func93 rfl (enters Tryz.func93 (by kernel_rfl) rfl) Tryz.ntmps93 rfl rfl ?_
  refine WP.seq <| WP.region <| vn (S1.alloc) rfl fun b4 => v0 (S0.assign rfl) rfl <| v0 (S0.assign rfl) rfl <| vE <| WP.seq <| WP.region <| v0 (S0.move rfl) rfl <| v0 (S0.move rfl) rfl <| ?_
  refine vc (S1.callF rfl (nums_spec (s := s) (a := a) (k := 3) (by omega) ha (by omega)) take0) rfl ?_
  rintro _ _ ⟨v, row, rfl, hsl, rfl⟩
  refine app ?_
  rw [n1] at n2 hsl ⊢
  refine v0 (S0.move rfl) rfl <| v0 (S0.extract rfl rfl) rfl <| v0 (S0.extract rfl rfl) rfl <| v0 (S0.extract rfl rfl) rfl <| v0 (S0.assign rfl) rfl <| v0 (S0.assign rfl) rfl <| v0 (S0.assign rfl) rfl <| vE <| WP.seq <| WP.seq <| WP.region <| v0 (S0.move rfl) rfl <| v0 (S0.cmp rfl rfl rfl) rfl <| vE <| ?_
  first | refine WP.condP rfl (fun h1 => ?_) (fun h1 => ?_) | refine WP.condN rfl (fun h1 => ?_) (fun h1 => ?_) | refine WP.cond rfl (fun h1 => ?_) (fun h1 => ?_)
  · rw [rdT_bad h1, rdT_bad (s := s) (a := (numAt s a 3).1) h1, if_pos h1] at hg
    refine WP.seq <| WP.region <| v0 (S0.build rfl (qs := []) rfl) rfl <| v0 (S0.move rfl) rfl <| vs (S1.storeA rfl rfl rfl) <| v0 (S0.assign rfl) rfl <| v0 (S0.assign rfl) rfl <| vE <| WP.ret <| ?_
    exact rce rfl rfl (load_agg (vs := evB ev0) (n := 5) (U := 41) (fz := (0, 0)) (by simp; exact .inr rfl) rfl) rfl rfl (by rw [hg])
  · have h10 : (numAt s a 3).2 = 0 := by simpa using h1
    obtain ⟨m1, m2⟩ := n2 h10
    rw [if_pos h10, m2] at hsl
    rw [if_pos h10, m1]
    rw [h10] at hg
    have hT := rdT_le (bad := 0) hle
    generalize (numAt s a 3).1 = p at hle hg hT
    have e1 : rdT s p 0 = if (cutV s p).2.2 ≠ 0 then ([], p, (cutV s p).2.2) else ((cutV s p).1, (cutV s p).2.1.toNat, 0) := by rw [rdT, if_neg (by decide)]
    refine WP.skip <| WP.seq <| WP.region <| v0 (S0.move rfl) rfl <| v0 (S0.move rfl) rfl <| ?_
    refine vcd (S1.callF rfl (rcut_spec (s := s) (a := p) (by omega) (by omega)) take0) rfl ?_
    refine v0 (S0.move rfl) rfl <| v0 (S0.extract rfl rfl) rfl <| v0 (S0.extract rfl rfl) rfl <| v0 (S0.extract rfl rfl) rfl <| v0 (S0.assign rfl) rfl <| v0 (S0.assign rfl) rfl <| v0 (S0.assign rfl) rfl <| vE <| WP.seq <| WP.seq <| WP.region <| v0 (S0.move rfl) rfl <| v0 (S0.cmp rfl rfl rfl) rfl <| vE <| ?_
    first | refine WP.condP rfl (fun h2 => ?_) (fun h2 => ?_) | refine WP.condN rfl (fun h2 => ?_) (fun h2 => ?_) | refine WP.cond rfl (fun h2 => ?_) (fun h2 => ?_)
    · rw [if_pos h2] at e1
      rw [e1] at hg
      dsimp only at hg
      rw [rdT_bad h2, if_pos h2] at hg
      refine WP.seq <| WP.region <| v0 (S0.build rfl (qs := []) rfl) rfl <| v0 (S0.move rfl) rfl <| vs (S1.storeA rfl rfl rfl) <| v0 (S0.assign rfl) rfl <| v0 (S0.assign rfl) rfl <| vE <| WP.ret <| ?_
      exact rce rfl rfl (load_agg (vs := evB ev0) (n := 5) (U := 41) (fz := (0, 0)) (by simp; exact .inr rfl) rfl) rfl rfl (by rw [hg])
    · have h2' : (cutV s p).2.2 = 0 := by simpa using h2
      obtain ⟨c1, c2, c3⟩ := cutV_le h2'
      rw [if_neg (by simpa using h2)] at e1
      rw [e1] at hg
      dsimp only at hg
      rw [c3]
      generalize (cutV s p).2.1.toNat = p2 at c1 hg
      generalize (cutV s p).1 = x1 at c2 hg
      have e2 : rdT s p2 0 = if (cutV s p2).2.2 ≠ 0 then ([], p2, (cutV s p2).2.2) else ((cutV s p2).1, (cutV s p2).2.1.toNat, 0) := by rw [rdT, if_neg (by decide)]
      refine WP.skip <| WP.seq <| WP.region <| v0 (S0.move rfl) rfl <| v0 (S0.move rfl) rfl <| ?_
      refine vcd (S1.callF rfl (rcut_spec (s := s) (a := p2) (by omega) (by omega)) take0) rfl ?_
      refine v0 (S0.move rfl) rfl <| v0 (S0.extract rfl rfl) rfl <| v0 (S0.extract rfl rfl) rfl <| v0 (S0.extract rfl rfl) rfl <| v0 (S0.assign rfl) rfl <| v0 (S0.assign rfl) rfl <| v0 (S0.assign rfl) rfl <| vE <| WP.seq <| WP.seq <| WP.region <| v0 (S0.move rfl) rfl <| v0 (S0.cmp rfl rfl rfl) rfl <| vE <| ?_
      first | refine WP.condP rfl (fun h3 => ?_) (fun h3 => ?_) | refine WP.condN rfl (fun h3 => ?_) (fun h3 => ?_) | refine WP.cond rfl (fun h3 => ?_) (fun h3 => ?_)
      · rw [if_pos h3] at e2
        rw [e2] at hg
        dsimp only at hg
        rw [if_pos h3] at hg
        refine WP.seq <| WP.region <| v0 (S0.build rfl (qs := []) rfl) rfl <| v0 (S0.move rfl) rfl <| vs (S1.storeA rfl rfl rfl) <| v0 (S0.assign rfl) rfl <| v0 (S0.assign rfl) rfl <| vE <| WP.ret <| ?_
        exact rce rfl rfl (load_agg (vs := evB ev0) (n := 5) (U := 41) (fz := (0, 0)) (by simp; exact .inr rfl) rfl) rfl rfl (by rw [hg])
      · have h3' : (cutV s p2).2.2 = 0 := by simpa using h3
        obtain ⟨d1, d2, d3⟩ := cutV_le h3'
        rw [if_neg (by simpa using h3)] at e2
        rw [e2] at hg
        dsimp only at hg
        rw [if_neg (by simp)] at hg
        rw [d3]
        generalize (cutV s p2).2.1.toNat = p3 at d1 hg
        generalize (cutV s p2).1 = x2 at d2 hg
        generalize numIs s a 0 = i0 at hg hsl
        generalize numIs s a 1 = i1 at hg hsl
        generalize numIs s a 2 = i2 at hg hsl
        obtain ⟨va, cap, rfl, hcap, hrow⟩ := hsl.intsE
        rcases hrow with ⟨e, -⟩ | ⟨b1, sp1, rfl, rfl, hsp1⟩
        · cases e
        refine WP.skip <| ?_
        refine WP.seq <| WP.drawP [(0, none), (1, none), (2, none), (3, none), (4, none), (5, none), (6, none), (7, none), (8, none), (9, none), (10, none), (11, none), (12, none), (13, none)] mixed (by kernel_rfl) (by kernel_rfl) (by kernel_rfl) (take1 at0 take0) <| w0 rfl rfl rfl (S0.move rfl) rfl <| ?_
        refine w0 rfl rfl rfl (S0.index1 (i := 0) rfl rfl (by simp)) rfl <| ?_
        refine w0 rfl rfl rfl (S0.load (v := .int .i64 i0) rfl rfl) rfl <| ?_
        refine w0 rfl rfl rfl (S0.move rfl) rfl <| ?_
        refine w0 rfl rfl rfl (S0.index1 (i := 1) rfl rfl (by simp)) rfl <| ?_
        refine w0 rfl rfl rfl (S0.load (v := .int .i64 i1) rfl rfl) rfl <| ?_
        refine w0 rfl rfl rfl (S0.move rfl) rfl <| ?_
        refine w0 rfl rfl rfl (S0.index1 (i := 2) rfl rfl (by simp)) rfl <| ?_
        refine w0 rfl rfl rfl (S0.load (v := .int .i64 i2) rfl rfl) rfl <| ?_
        refine w0 rfl rfl rfl (S0.move rfl) rfl <| w0 rfl rfl rfl (S0.move rfl) rfl <| w0 rfl rfl rfl (S0.build rfl (qs := [(0, _), (1, _), (4, _), (2, _), (3, _)]) rfl) rfl <| wn rfl rfl rfl rfl (S1.alloc) rfl fun b16 => ws rfl rfl rfl rfl (S1.storeA rfl rfl rfl) <| wE <| WP.seq <| WP.seq <| WP.region <| v0 (S0.loadAL rfl) rfl <| ?_
        refine vcd (S1.callF rfl (revRight_spec (x := ⟨i0, i1, x1, x2, i2⟩) (by dsimp only; omega)) take0) rfl ?_
        generalize hr : rightE ⟨i0, i1, x1, x2, i2⟩ = r at hg
        refine v0 (S0.not rfl) rfl <| vE <| ?_
        cases r with
        | false =>
          refine WP.condTh rfl (rfl) ?_
          rw [if_pos rfl] at hg
          refine WP.seq <| WP.region <| v0 (S0.build rfl (qs := []) rfl) rfl <| vs (S1.storeA rfl rfl rfl) <| v0 (S0.assign rfl) rfl <| v0 (S0.assign rfl) rfl <| vE <| WP.ret <| ?_
          exact rce rfl rfl (load_agg (vs := evB ev0) (n := 5) (U := 41) (fz := (0, 0)) (by simp; exact .inr rfl) rfl) rfl rfl (by rw [hg])
        | true =>
          refine WP.condFh rfl (rfl) ?_
          rw [if_neg (by decide)] at hg
          refine WP.skip <| WP.seq <| WP.region <| v0 (S0.loadAL rfl) rfl <| v0 (S0.move rfl) rfl <| vs (S1.storeA rfl rfl rfl) <| v0 (S0.assign rfl) rfl <| v0 (S0.assign rfl) rfl <| vE <| WP.ret <| ?_
          exact rce rfl rfl (load_agg (vs := evB ⟨i0, i1, x1, x2, i2⟩) (n := 5) (U := 41) (fz := (0, 0)) (by simp) rfl) rfl rfl (by rw [hg])
theorem reage_spec {e : Ev} (he : -1000000000000 ≤ e.e ∧ e.e ≤ 1000000000000) {n : Int} (hn : n ≤ 1000000000000) : FN Tryz.prog 109 [.agg ⟨evB e⟩, .int .i64 n] [] (is (.agg ⟨evB (ageE e n)⟩) []) := by
  refine FN.quiet ?_
  unfold ageE
  refine FN.intro 19 [(0, .agg ⟨evB e⟩), (1, .int .i64 n)] Tryz.func109 rfl (enters Tryz.func109 (by kernel_rfl) rfl) Tryz.ntmps109 rfl rfl ?_
  refine WP.seq <| WP.region <| vn (S1.box rfl rfl) rfl fun b2 => vn (S1.alloc) rfl fun b4 => vE <| WP.seq <| WP.seq <| WP.region <| v0 (S0.move rfl) rfl <| v0 (S0.cmp rfl rfl rfl) rfl <| vE <| ?_
  first | refine WP.condP rfl (fun h1 => ?_) (fun h1 => ?_) | refine WP.condN rfl (fun h1 => ?_) (fun h1 => ?_) | refine WP.cond rfl (fun h1 => ?_) (fun h1 => ?_)
  · rw [if_pos h1]
    refine WP.seq <| WP.region <| v0 (S0.loadAL rfl) rfl <| vs (S1.storeA rfl rfl rfl) <| vE <| WP.ret <| ?_
    exact rc1 rfl rfl (load_agg (vs := evB e) (n := 5) (U := 41) (fz := (0, 0)) (by simp) rfl) rfl
  · rw [if_neg h1]
    refine WP.skip <| WP.seq <| WP.seq <| WP.region <| v0 (S0.fieldAddr rfl) rfl <| v0 (S0.load rfl rfl) rfl <| v0 (S0.move rfl) rfl <| v0 (S0.cmp rfl rfl rfl) rfl <| vE <| ?_
    first | refine WP.condP rfl (fun h2 => ?_) (fun h2 => ?_) | refine WP.condN rfl (fun h2 => ?_) (fun h2 => ?_) | refine WP.cond rfl (fun h2 => ?_) (fun h2 => ?_)
    · rw [if_pos h2]
      refine WP.region <| v0 (S0.fieldAddr rfl) rfl <| vs (S1.store rfl rfl (by first | rfl | exact IsSl.cv (by assumption))) <| vE <| WP.seq <| WP.region <| v0 (S0.loadAL rfl) rfl <| vs (S1.storeA rfl rfl rfl) <| vE <| WP.ret <| ?_
      exact rc1 rfl rfl (load_agg (vs := evB { e with e := 0 }) (n := 5) (U := 41) (fz := (0, 0)) (by simp) rfl) rfl
    · rw [if_neg h2]
      refine WP.region <| v0 (S0.fieldAddr rfl) rfl <| v0 (S0.load rfl rfl) rfl <| v0 (S0.move rfl) rfl <| v0 (S0.ari rfl rfl rfl (wrap_i64 (by omega))) rfl <| v0 (S0.fieldAddr rfl) rfl <| vs (S1.store rfl rfl (by first | rfl | exact IsSl.cv (by assumption))) <| vE <| WP.seq <| WP.region <| v0 (S0.loadAL rfl) rfl <| vs (S1.storeA rfl rfl rfl) <| vE <| WP.ret <| ?_
      exact rc1 rfl rfl (load_agg (vs := evB { e with e := e.e - n }) (n := 5) (U := 41) (fz := (0, 0)) (by simp) rfl) rfl
end Go.Proofs.YtjpjebfodhbdfaaGreatDoor
namespace Go.Proofs.YtjpjebfodhbdfaaGreatDoor
open Go
theorem mkO_take {M : List MkT} {o : Int} {k : Nat} {x : MkT} (hno : ∀ (j : Nat) (y : MkT), j < k → M[j]? = some y → y.1 ≠ o) (hx : M[k]? = some x) (he : x.1 = o) : mkO M o = some x.2 := by
  induction M generalizing k with
  | nil => simp at hx
  | cons z M ih =>
    cases k with
    | zero => simp at hx; subst hx; simp [mkO, he]
    | succ k =>
      have h0 := hno 0 z (by omega) rfl
      simp only [mkO, if_neg h0]
      exact ih (k := k) (fun j y hj hy => hno (j + 1) y (by omega) (by simpa using hy)) (by simpa using hx)
theorem mkO_no {M : List MkT} {o : Int} (hno : ∀ (j : Nat) (y : MkT), M[j]? = some y → y.1 ≠ o) : mkO M o = none := by
  induction M with
  | nil => rfl
  | cons z M ih =>
    have h0 := hno 0 z rfl
    simp only [mkO, if_neg h0]
    exact ih fun j y hy => hno (j + 1) y (by simpa using hy)
def mkOut (M : List MkT) (m : MkT) (inb : Bool) : List MkT := if inb = true then setMk M m else M
theorem filt_lt {M : List MkT} {m : MkT} (h : ∀ x ∈ M, x.1 < m.1) : setMk M m = M ++ [m] := setMk_end h
theorem setMk_snoc {M : List MkT} {m x : MkT} (h : m.1 < x.1) : setMk (M ++ [x]) m = setMk M m ++ [x] := by
  unfold setMk
  rw [List.filter_append, List.filter_append]
  have e1 : [x].filter (fun z => decide (z.1 < m.1)) = [] := by simp; omega
  have e2 : [x].filter (fun z => decide (m.1 < z.1)) = [x] := by simp [h]
  rw [e1, e2]; simp
theorem setMk_over {M : List MkT} {m x : MkT} (h : x.1 = m.1) : setMk (M ++ [x]) m = setMk M m := by
  unfold setMk
  rw [List.filter_append, List.filter_append]
  have e1 : [x].filter (fun z => decide (z.1 < m.1)) = [] := by simp; omega
  have e2 : [x].filter (fun z => decide (m.1 < z.1)) = [] := by simp; omega
  rw [e1, e2]; simp
theorem rMark_spec {v : Value} {M : List MkT} {row : List Blk} {m : MkT} (hs : IsSl 63 2 v (M.flatMap enM) row) (hris : RisM M) (hl : M.length ≤ 1000) :
    FN Tryz.prog 105 [v, .agg ⟨enM m⟩] [row] (fun u h => ∃ row2, IsSl 63 2 u ((setMk M m).flatMap enM) row2 ∧ h = [row2, row]) := by
  obtain ⟨a, cap, rfl, hcap, hrow⟩ := IsSl.elems (k := 1) enM_len hs
  refine FN.intro 53 [(0, .slice a M.length cap), (1, .agg ⟨enM m⟩)] Tryz.func105 rfl (enters Tryz.func105 (by kernel_rfl) rfl) Tryz.ntmps105 rfl rfl ?_
  refine WP.seq <| WP.region <| vn (S1.box rfl rfl) rfl fun b3 => v0 (S0.assign rfl) rfl <| vE <| WP.seq <| WP.region <| vnv (S1.buildSlice rfl (qs := []) rfl rfl) rfl fun b8 => v0 (S0.assign rfl) rfl <| v0 (S0.assign rfl) rfl <| vE <| WP.seq <| WP.seq <| WP.region <| v0 (S0.assign rfl) rfl <| vE <| WP.block <| ?_
  refine WP.loop (fun st : Nat × Bool × Value × List Blk => st.1 ≤ M.length ∧ (st.2.1 = false → ∀ x ∈ M.take st.1, x.1 < m.1) ∧ (st.2.1 = true → ∃ x ∈ M.take st.1, m.1 ≤ x.1) ∧ IsSl 63 2 st.2.2.1 ((mkOut (M.take st.1) m st.2.1).flatMap enM) st.2.2.2) (fun st : Nat × Bool × Value × List Blk => [(0, .slice a M.length cap), (3, .pointer (some ⟨b3, 0, none⟩)), (5, st.2.2.1), (6, .bool st.2.1), (7, .int .i64 (st.1 : Int))]) (fun st : Nat × Bool × Value × List Blk => [st.2.2.2, row, [(b3, .cells ⟨enM m⟩ 63 (0, 0))]]) (fun st : Nat × Bool × Value × List Blk => M.length - st.1) ((0, false, .slice (some ⟨b8, 0, none⟩) 0 0, [(b8, .cells ⟨[]⟩ 63 (0, 0))])) (⟨Nat.zero_le _, fun _ => by simp, (fun h => by cases h), IsSl.row (n := 0) (c := 0) (l := []) (sp := []) rfl rfl (Nat.le_refl _)⟩) ⟨rfl, rfl, rfl, rfl, rfl, trivial⟩ ⟨_, (take1 at0 (take1 (atS at0) (take1 at0 take0)))⟩ (fun st hinv => ?_)
  obtain ⟨k, inb, ov, orow⟩ := st
  obtain ⟨hk, hin0, hin1, hos⟩ := hinv
  dsimp only at hk hin0 hin1 hos ⊢
  refine WP.seq <| WP.seq <| WP.region <| v0 (S0.move rfl) rfl <| v0 (S0.move rfl) rfl <| v0 (S0.lenSl rfl) rfl <| v0 (S0.cmp rfl rfl rfl) rfl <| vE <| ?_
  first | refine WP.condP rfl (fun h1 => ?_) (fun h1 => ?_) | refine WP.condN rfl (fun h1 => ?_) (fun h1 => ?_) | refine WP.cond rfl (fun h1 => ?_) (fun h1 => ?_)
  · have hlt : k < M.length := by omega
    rcases hrow with ⟨e, -⟩ | ⟨b1, sp1, rfl, rfl, hsp1⟩
    · rw [e] at hlt; simp at hlt
    have hx : M[k]? = some M[k] := by simp [hlt]
    generalize M[k] = x at hx
    have hbef := ris_before hris hx
    have htk : M.take (k + 1) = M.take k ++ [x] := by rw [List.take_add_one, hx]; rfl
    have g0 := flat_get enM_len sp1 M k 0 x hx (by decide)
    have hgt := flat_take enM_len sp1 M k x hx
    have htl : (M.take k).length ≤ 1000 := by rw [List.length_take]; omega
    refine WP.skip <| WP.seq <| WP.block <| WP.seq <| WP.seq <| WP.drawP [(0, none), (1, none), (2, none), (3, none), (4, none), (5, none), (6, none), (7, none), (8, none), (9, none), (10, none), (11, none)] mixed (by kernel_rfl) (by kernel_rfl) (by kernel_rfl) (take1 (atS at0) (take1 (atS at0) take0)) <| w0 rfl rfl rfl (S0.move rfl) rfl <| w0 rfl rfl rfl (S0.not rfl) rfl <| w0 rfl rfl rfl (S0.move rfl) rfl <| ?_
    cases inb with
    | false =>
      have hall := hin0 rfl
      refine wcsTh (t := 17) rfl (rfl) ?_
      refine w0 rfl rfl rfl (S0.move rfl) rfl <| w0 rfl rfl rfl (S0.move rfl) rfl <| ?_
      refine w0 rfl rfl rfl (S0.indexN (k := 2) rfl rfl hlt) rfl <| ?_
      refine w0 rfl rfl rfl (S0.fieldAddr rfl) rfl <| ?_
      refine w0 rfl rfl rfl (S0.load (v := .int .i64 x.1) rfl g0) rfl <| ?_
      refine w0 rfl rfl rfl (S0.fieldAddr rfl) rfl <| w0 rfl rfl rfl (S0.load rfl rfl) rfl <| w0 rfl rfl rfl (S0.cmp rfl rfl rfl) rfl <| w0 rfl rfl rfl (S0.pickT rfl rfl) rfl <| wE <| ?_
      first | refine WP.condP rfl (fun h2 => ?_) (fun h2 => ?_) | refine WP.condN rfl (fun h2 => ?_) (fun h2 => ?_) | refine WP.cond rfl (fun h2 => ?_) (fun h2 => ?_)
      · refine WP.seq <| WP.region <| v0 (S0.move rfl) rfl <| v0 (S0.loadAL rfl) rfl <| vnv (S1.buildSlice rfl (qs := [(0, _)]) rfl rfl) rfl fun b29 => ?_
        refine ve (S1.appendL rfl hos rfl rfl (atS (atS (atS at0))) rfl rfl (by rw [flat_len enM_len]; simp [mkOut]; omega)) rfl ?_
        rintro v2 _ ⟨row2, hs2, rfl⟩
        have hs3 : IsSl 63 2 v2 ((setMk (M.take k) m).flatMap enM) row2 := by rw [filt_lt hall]; simpa [mkOut] using hs2
        refine v0 (S0.assign rfl) rfl <| vE <| WP.region <| v0 (S0.assign rfl) rfl <| vE <| WP.seq <| WP.drawP [(0, none), (1, none), (2, none), (3, none), (4, none), (5, none), (6, none), (7, none)] mixed (by kernel_rfl) (by kernel_rfl) (by kernel_rfl) (take1 (atS (atS at0)) (take1 (atS (atS at0)) take0)) <| w0 rfl rfl rfl (S0.move rfl) rfl <| w0 rfl rfl rfl (S0.move rfl) rfl <| ?_
        refine w0 rfl rfl rfl (S0.indexN (k := 2) rfl rfl hlt) rfl <| ?_
        refine w0 rfl rfl rfl (S0.fieldAddr rfl) rfl <| ?_
        refine w0 rfl rfl rfl (S0.load (v := .int .i64 x.1) rfl g0) rfl <| ?_
        refine w0 rfl rfl rfl (S0.fieldAddr rfl) rfl <| w0 rfl rfl rfl (S0.load rfl rfl) rfl <| w0 rfl rfl rfl (S0.cmp rfl rfl rfl) rfl <| wE <| ?_
        first | refine WP.condP rfl (fun h3 => ?_) (fun h3 => ?_) | refine WP.condN rfl (fun h3 => ?_) (fun h3 => ?_) | refine WP.cond rfl (fun h3 => ?_) (fun h3 => ?_)
        · refine WP.region <| v0 (S0.move rfl) rfl <| v0 (S0.move rfl) rfl <| v0 (S0.move rfl) rfl <| ?_
          refine v0 (S0.indexN (k := 2) rfl rfl hlt) rfl <| ?_
          refine v0 (S0.loadA rfl hgt rfl) rfl <| ?_
          refine vnv (S1.buildSlice rfl (qs := [(0, _)]) rfl rfl) rfl fun b44 => ?_
          refine ve (S1.appendL rfl hs3 rfl rfl (atS (atS (atS at0))) rfl rfl (by rw [flat_len enM_len, filt_lt hall]; simp; omega)) rfl ?_
          rintro v4 _ ⟨row4, hs4, rfl⟩
          refine v0 (S0.assign rfl) rfl <| vE <| WP.region <| v0 (S0.move rfl) rfl <| v0 (S0.ari rfl rfl rfl (wrap_i64 (by omega))) rfl <| v0 (S0.assign rfl) rfl <| vE <| ?_
          have hs5 : IsSl 63 2 v4 ((mkOut (M.take (k + 1)) m true).flatMap enM) row4 := by
            have e : mkOut (M.take (k + 1)) m true = setMk (M.take k) m ++ [x] := by unfold mkOut; rw [if_pos rfl, htk, setMk_snoc (by omega)]
            rw [e]; simpa using hs4
          exact ⟨(k + 1, true, v4, row4), (by first | exact ⟨hlt, (fun h => by cases h), fun _ => ⟨x, by rw [htk]; simp, by omega⟩, hs5⟩ | (dsimp only; exact ⟨hlt, (fun h => by cases h), fun _ => ⟨x, by rw [htk]; simp, by omega⟩, hs5⟩)), (show M.length - (k + 1) < M.length - k by omega), ⟨⟨rfl, rfl, rfl, rfl, rfl, trivial⟩, rfl, rfl⟩, ⟨_, (take1 at0 (take1 (atS at0) (take1 (atS at0) take0)))⟩⟩
        · refine WP.skip <| WP.region <| v0 (S0.move rfl) rfl <| v0 (S0.ari rfl rfl rfl (wrap_i64 (by omega))) rfl <| v0 (S0.assign rfl) rfl <| vE <| ?_
          have hs5 : IsSl 63 2 v2 ((mkOut (M.take (k + 1)) m true).flatMap enM) row2 := by
            have e : mkOut (M.take (k + 1)) m true = setMk (M.take k) m := by unfold mkOut; rw [if_pos rfl, htk, setMk_over (by omega)]
            rw [e]; exact hs3
          exact ⟨(k + 1, true, v2, row2), (by first | exact ⟨hlt, (fun h => by cases h), fun _ => ⟨x, by rw [htk]; simp, by omega⟩, hs5⟩ | (dsimp only; exact ⟨hlt, (fun h => by cases h), fun _ => ⟨x, by rw [htk]; simp, by omega⟩, hs5⟩)), (show M.length - (k + 1) < M.length - k by omega), ⟨⟨rfl, rfl, rfl, rfl, rfl, trivial⟩, rfl, rfl⟩, ⟨_, (take1 (atS (atS at0)) (take1 at0 (take1 at0 take0)))⟩⟩
      · refine WP.skip <| WP.seq <| WP.drawP [(0, none), (1, none), (2, none), (3, none), (4, none), (5, none), (6, none), (7, none)] mixed (by kernel_rfl) (by kernel_rfl) (by kernel_rfl) (take1 at0 (take1 at0 take0)) <| w0 rfl rfl rfl (S0.move rfl) rfl <| w0 rfl rfl rfl (S0.move rfl) rfl <| ?_
        refine w0 rfl rfl rfl (S0.indexN (k := 2) rfl rfl hlt) rfl <| ?_
        refine w0 rfl rfl rfl (S0.fieldAddr rfl) rfl <| ?_
        refine w0 rfl rfl rfl (S0.load (v := .int .i64 x.1) rfl g0) rfl <| ?_
        refine w0 rfl rfl rfl (S0.fieldAddr rfl) rfl <| w0 rfl rfl rfl (S0.load rfl rfl) rfl <| w0 rfl rfl rfl (S0.cmp rfl rfl rfl) rfl <| wE <| ?_
        refine WP.condTh rfl ((by simp; omega)) ?_
        refine WP.region <| v0 (S0.move rfl) rfl <| v0 (S0.move rfl) rfl <| v0 (S0.move rfl) rfl <| ?_
        refine v0 (S0.indexN (k := 2) rfl rfl hlt) rfl <| ?_
        refine v0 (S0.loadA rfl hgt rfl) rfl <| ?_
        refine vnv (S1.buildSlice rfl (qs := [(0, _)]) rfl rfl) rfl fun b44 => ?_
        refine ve (S1.appendL rfl hos rfl rfl (atS (atS (atS at0))) rfl rfl (by rw [flat_len enM_len]; simp [mkOut]; omega)) rfl ?_
        rintro v4 _ ⟨row4, hs4, rfl⟩
        refine v0 (S0.assign rfl) rfl <| vE <| WP.region <| v0 (S0.move rfl) rfl <| v0 (S0.ari rfl rfl rfl (wrap_i64 (by omega))) rfl <| v0 (S0.assign rfl) rfl <| vE <| ?_
        have hs5 : IsSl 63 2 v4 ((mkOut (M.take (k + 1)) m false).flatMap enM) row4 := by
          have e : mkOut (M.take (k + 1)) m false = M.take k ++ [x] := by unfold mkOut; rw [if_neg (by simp), htk]
          rw [e]; simpa [mkOut] using hs4
        have hall2 : ∀ z ∈ M.take (k + 1), z.1 < m.1 := fun z hz => by
          rw [htk] at hz
          rcases List.mem_append.1 hz with hz | hz
          · exact hall z hz
          · simp at hz; subst hz; omega
        exact ⟨(k + 1, false, v4, row4), (by first | exact ⟨hlt, (fun _ => hall2), (fun h => by cases h), hs5⟩ | (dsimp only; exact ⟨hlt, (fun _ => hall2), (fun h => by cases h), hs5⟩)), (show M.length - (k + 1) < M.length - k by omega), ⟨⟨rfl, rfl, rfl, rfl, rfl, trivial⟩, rfl, rfl⟩, ⟨_, (take1 at0 (take1 (atS at0) (take1 (atS at0) take0)))⟩⟩
    | true =>
      obtain ⟨z, hz, hmz⟩ := hin1 rfl
      have hxz := hbef z hz
      refine wcsFh (t := 17) rfl (rfl) ?_
      refine wF rfl rfl rfl rfl <| wF rfl rfl rfl rfl <| wF rfl rfl rfl rfl <| wF rfl rfl rfl rfl <| wF rfl rfl rfl rfl <| wF rfl rfl rfl rfl <| wF rfl rfl rfl rfl <| wF rfl rfl rfl rfl <| w0 rfl rfl rfl (S0.pickF rfl rfl) rfl <| wE <| WP.condF rfl <| WP.skip <| WP.seq <| WP.drawP [(0, none), (1, none), (2, none), (3, none), (4, none), (5, none), (6, none), (7, none)] mixed (by kernel_rfl) (by kernel_rfl) (by kernel_rfl) (take1 at0 (take1 at0 take0)) <| w0 rfl rfl rfl (S0.move rfl) rfl <| w0 rfl rfl rfl (S0.move rfl) rfl <| ?_
      refine w0 rfl rfl rfl (S0.indexN (k := 2) rfl rfl hlt) rfl <| ?_
      refine w0 rfl rfl rfl (S0.fieldAddr rfl) rfl <| ?_
      refine w0 rfl rfl rfl (S0.load (v := .int .i64 x.1) rfl g0) rfl <| ?_
      refine w0 rfl rfl rfl (S0.fieldAddr rfl) rfl <| w0 rfl rfl rfl (S0.load rfl rfl) rfl <| w0 rfl rfl rfl (S0.cmp rfl rfl rfl) rfl <| wE <| ?_
      refine WP.condTh rfl ((by simp; omega)) ?_
      refine WP.region <| v0 (S0.move rfl) rfl <| v0 (S0.move rfl) rfl <| v0 (S0.move rfl) rfl <| ?_
      refine v0 (S0.indexN (k := 2) rfl rfl hlt) rfl <| ?_
      refine v0 (S0.loadA rfl hgt rfl) rfl <| ?_
      refine vnv (S1.buildSlice rfl (qs := [(0, _)]) rfl rfl) rfl fun b44 => ?_
      have hsl := set_len' (M := M.take k) (hris.sublist (List.take_sublist _ _)) m
      have htl2 : (M.take k).length ≤ 1000 := by rw [List.length_take]; omega
      have hsl2 : (setMk (M.take k) m).length ≤ 1001 := by
        cases hq : mkO (M.take k) m.1 with
        | none => rw [hq] at hsl; rw [hsl]; exact Nat.succ_le_succ htl2
        | some n => rw [hq] at hsl; rw [hsl]; exact Nat.le_succ_of_le htl2
      have hmo : (mkOut (M.take k) m true).length ≤ 1001 := by unfold mkOut; rw [if_pos rfl]; exact hsl2
      refine ve (S1.appendL rfl hos rfl rfl (atS (atS (atS at0))) rfl rfl (by rw [flat_len enM_len]; simp only [List.length_cons, List.length_nil]; omega)) rfl ?_
      rintro v4 _ ⟨row4, hs4, rfl⟩
      refine v0 (S0.assign rfl) rfl <| vE <| WP.region <| v0 (S0.move rfl) rfl <| v0 (S0.ari rfl rfl rfl (wrap_i64 (by omega))) rfl <| v0 (S0.assign rfl) rfl <| vE <| ?_
      have hs5 : IsSl 63 2 v4 ((mkOut (M.take (k + 1)) m true).flatMap enM) row4 := by
        have e : mkOut (M.take (k + 1)) m true = setMk (M.take k) m ++ [x] := by unfold mkOut; rw [if_pos rfl, htk, setMk_snoc (by omega)]
        rw [e]; simpa [mkOut] using hs4
      exact ⟨(k + 1, true, v4, row4), (by first | exact ⟨hlt, (fun h => by cases h), fun _ => ⟨x, by rw [htk]; simp, by omega⟩, hs5⟩ | (dsimp only; exact ⟨hlt, (fun h => by cases h), fun _ => ⟨x, by rw [htk]; simp, by omega⟩, hs5⟩)), (show M.length - (k + 1) < M.length - k by omega), ⟨⟨rfl, rfl, rfl, rfl, rfl, trivial⟩, rfl, rfl⟩, ⟨_, (take1 at0 (take1 (atS at0) (take1 (atS at0) take0)))⟩⟩
  · have e : k = M.length := by omega
    subst e
    rw [List.take_length] at hos hin0
    refine WP.exit <| WP.seq <| WP.seq <| WP.region <| v0 (S0.move rfl) rfl <| v0 (S0.not rfl) rfl <| vE <| ?_
    cases inb with
    | false =>
      refine WP.condTh rfl (rfl) ?_
      refine WP.region <| v0 (S0.move rfl) rfl <| v0 (S0.loadAL rfl) rfl <| vnv (S1.buildSlice rfl (qs := [(0, _)]) rfl rfl) rfl fun b50 => ?_
      refine ve (S1.appendL rfl hos rfl rfl (atS at0) rfl rfl (by rw [flat_len enM_len]; simp [mkOut]; omega)) rfl ?_
      rintro v4 _ ⟨row4, hs4, rfl⟩
      refine v0 (S0.assign rfl) rfl <| vE <| WP.seq <| WP.region <| v0 (S0.move rfl) rfl <| v0 (S0.assign rfl) rfl <| vE <| WP.ret <| ?_
      refine Leaves.drop (take1 at0 (take1 (atS at0) take0)) ?_
      refine r1 rfl rfl ?_
      refine ⟨row4, ?_, rfl⟩
      rw [filt_lt (hin0 rfl)]; simpa [mkOut] using hs4
    | true =>
      refine WP.condFh rfl (rfl) ?_
      refine WP.skip <| WP.seq <| WP.region <| v0 (S0.move rfl) rfl <| v0 (S0.assign rfl) rfl <| vE <| WP.ret <| ?_
      refine Leaves.drop (take1 at0 (take1 at0 take0)) ?_
      refine r1 rfl rfl ?_
      exact ⟨orow, by simpa [mkOut] using hos, rfl⟩
abbrev plcB (L : List (Nat × Ev)) : List Value := ints (L.map fun x => (x.1 : Int))
abbrev rbB (rk rl : Nat) (v1 v2 v3 : Value) (n : Int) : Blk := (rk, .cells ⟨[ptrB rl, v1, v2, v3, .int .i64 n]⟩ 50 (0, 0))
def IsRCt (rk rl : Nat) (b : Ct) (cc : List Blk) : Prop := ∃ v1 row1 v2 row2 v3 row3, IsSl 41 5 v1 (evsB (b.L.map (·.2))) row1 ∧ IsSl 3 1 v2 (plcB b.L) row2 ∧ IsSl 63 2 v3 (b.M.flatMap enM) row3 ∧ cc = rbB rk rl v1 v2 v3 (b.n : Int) :: (row1 ++ (row2 ++ row3))
theorem xseq_spec {rk rl : Nat} {b : Ct} {cc : List Blk} (h : IsRCt rk rl b cc) (ho : CtW b) (o : Int) : FN Tryz.prog 28 [ptrB rk, .int .i64 o] [cc] (is (.int .i64 (seqK b o)) [cc]) := by
  obtain ⟨v1, row1, v2, row2, v3, row3, h1, h2, h3, rfl⟩ := h
  obtain ⟨a, cap, rfl, hcap, hrow⟩ := IsSl.elems (k := 1) enM_len h3
  obtain ⟨hris, hlM⟩ := ho.ris
  refine FN.intro 33 [(0, ptrB rk), (1, .int .i64 o)] Tryz.func28 rfl (enters Tryz.func28 (by kernel_rfl) rfl) Tryz.ntmps28 rfl rfl ?_
  refine WP.perm (h' := [[rbB rk rl v1 v2 (.slice a b.M.length cap) (b.n : Int)], row3, row1 ++ row2]) (k := []) (pm fun a_ => by (try simp only [List.flatten_append, List.flatten_cons, List.flatten_nil, List.append_nil, List.cons_append, List.nil_append, List.append_assoc, nOf_app, nOf_cons, nOf_nil, Nat.add_zero, Nat.zero_add, List.map_append, List.map_cons, List.map_nil, cel, sv]); first | done | omega) ?_
  refine WP.seq <| WP.region <| v0 (S0.assign rfl) rfl <| vE <| WP.seq <| WP.seq <| WP.region <| v0 (S0.assign rfl) rfl <| vE <| WP.block <| ?_
  refine WP.loop (fun k : Nat => k ≤ b.M.length ∧ ∀ (j : Nat) (y : MkT), j < k → b.M[j]? = some y → y.1 ≠ o) (fun k : Nat => [(0, ptrB rk), (1, .int .i64 o), (5, .int .i64 (k : Int))]) (fun k : Nat => [[rbB rk rl v1 v2 (.slice a b.M.length cap) (b.n : Int)], row3, row1 ++ row2]) (fun k : Nat => b.M.length - k) (0) (⟨Nat.zero_le _, fun j y hj => by omega⟩) ⟨rfl, rfl, rfl, trivial⟩ ⟨_, (take1 at0 (take1 at0 (take1 at0 take0)))⟩ (fun k hinv => ?_)
  obtain ⟨hk, hno⟩ := hinv
  refine WP.seq <| WP.seq <| WP.region <| v0 (S0.move rfl) rfl <| v0 (S0.move rfl) rfl <| v0 (S0.nilCheck rfl) rfl <| v0 (S0.fieldAddr rfl) rfl <| v0 (S0.load rfl rfl) rfl <| v0 (S0.lenSl rfl) rfl <| v0 (S0.cmp rfl rfl rfl) rfl <| vE <| ?_
  first | refine WP.condP rfl (fun hq => ?_) (fun hq => ?_) | refine WP.condN rfl (fun hq => ?_) (fun hq => ?_) | refine WP.cond rfl (fun hq => ?_) (fun hq => ?_)
  · have hlt : k < b.M.length := by omega
    rcases hrow with ⟨e, -⟩ | ⟨b1, sp1, rfl, rfl, hsp1⟩
    · rw [e] at hlt; simp at hlt
    have hx : b.M[k]? = some b.M[k] := by simp [hlt]
    generalize b.M[k] = z at hx
    have g0 := flat_get enM_len sp1 b.M k 0 z hx (by decide)
    have g1 := flat_get enM_len sp1 b.M k 1 z hx (by decide)
    refine WP.skip <| WP.seq <| WP.block <| WP.seq <| WP.region <| v0 (S0.move rfl) rfl <| v0 (S0.nilCheck rfl) rfl <| v0 (S0.fieldAddr rfl) rfl <| v0 (S0.load rfl rfl) rfl <| v0 (S0.move rfl) rfl <| ?_
    refine v0 (S0.indexN (k := 2) rfl rfl hlt) rfl <| ?_
    refine v0 (S0.fieldAddr rfl) rfl <| ?_
    refine v0 (S0.load (v := .int .i64 z.1) rfl g0) rfl <| ?_
    refine v0 (S0.move rfl) rfl <| v0 (S0.cmp rfl rfl rfl) rfl <| vE <| ?_
    first | refine WP.condP rfl (fun h2 => ?_) (fun h2 => ?_) | refine WP.condN rfl (fun h2 => ?_) (fun h2 => ?_) | refine WP.cond rfl (fun h2 => ?_) (fun h2 => ?_)
    · refine WP.seq <| WP.region <| v0 (S0.move rfl) rfl <| v0 (S0.nilCheck rfl) rfl <| v0 (S0.fieldAddr rfl) rfl <| v0 (S0.load rfl rfl) rfl <| v0 (S0.move rfl) rfl <| ?_
      refine v0 (S0.indexN (k := 2) rfl rfl hlt) rfl <| ?_
      refine v0 (S0.fieldAddr rfl) rfl <| ?_
      refine v0 (S0.load (v := .int .i64 z.2) rfl g1) rfl <| ?_
      refine v0 (S0.assign rfl) rfl <| vE <| WP.ret <| ?_
      refine Leaves.drop (h' := [rbB rk rl v1 v2 (.slice (some ⟨b1, 0, none⟩) b.M.length cap) (b.n : Int) :: (row1 ++ (row2 ++ [(b1, .cells ⟨b.M.flatMap enM ++ sp1⟩ 63 (0, 0))]))]) (k := []) (pm fun a_ => by (try simp only [List.flatten_append, List.flatten_cons, List.flatten_nil, List.append_nil, List.cons_append, List.nil_append, List.append_assoc, nOf_app, nOf_cons, nOf_nil, Nat.add_zero, Nat.zero_add, List.map_append, List.map_cons, List.map_nil, cel, sv]); first | done | omega) ?_
      refine r1 rfl rfl ⟨?_, rfl⟩
      unfold seqK; rw [mkO_take hno hx h2]; rfl
    · refine WP.skip <| WP.region <| v0 (S0.move rfl) rfl <| v0 (S0.ari rfl rfl rfl (wrap_i64 (by omega))) rfl <| v0 (S0.assign rfl) rfl <| vE <| ?_
      exact ⟨k + 1, (by first | exact ⟨hlt, below_at (p := fun _ (y : MkT) => y.1 ≠ o) hno hx h2⟩ | (dsimp only; exact ⟨hlt, below_at (p := fun _ (y : MkT) => y.1 ≠ o) hno hx h2⟩)), (show b.M.length - (k + 1) < b.M.length - k by omega), ⟨⟨rfl, rfl, rfl, trivial⟩, rfl, rfl⟩, ⟨_, (take1 at0 (take1 at0 (take1 at0 take0)))⟩⟩
  · refine WP.exit <| WP.seq <| WP.region <| v0 (S0.assign rfl) rfl <| vE <| WP.ret <| ?_
    refine Leaves.drop (h' := [rbB rk rl v1 v2 (.slice a b.M.length cap) (b.n : Int) :: (row1 ++ (row2 ++ row3))]) (k := []) (pm fun a_ => by (try simp only [List.flatten_append, List.flatten_cons, List.flatten_nil, List.append_nil, List.cons_append, List.nil_append, List.append_assoc, nOf_app, nOf_cons, nOf_nil, Nat.add_zero, Nat.zero_add, List.map_append, List.map_cons, List.map_nil, cel, sv]); first | done | omega) ?_
    refine r1 rfl rfl ⟨?_, rfl⟩
    unfold seqK; rw [mkO_no fun j y hy => hno j y (by have := (List.getElem?_eq_some_iff.1 hy).1; omega) hy]; rfl
theorem xwhy_spec {rk rl : Nat} {b : Ct} {cc : List Blk} (h : IsRCt rk rl b cc) (ho : CtW b) {e : Ev} (ht : e.t.length ≤ 900000) : FN Tryz.prog 53 [ptrB rk, .agg ⟨evB e⟩] [cc] (is (.int .i64 (whyK b e)) [cc]) := by
  have h0 := h
  obtain ⟨v1, row1, v2, row2, v3, row3, h1, h2, h3, rfl⟩ := h
  obtain ⟨a, cap, rfl, hcap, -⟩ := IsSl.elems (k := 1) enM_len h3
  obtain ⟨a1, cap1, rfl, hcap1, -⟩ := IsSl.elems (k := 4) evB_len h1
  obtain ⟨hris, hlM⟩ := ho.ris
  have hLl : (b.L.map (·.2)).length = b.L.length := List.length_map _
  refine FN.rest ?_
  refine FN.intro 41 [(0, ptrB rk), (1, .agg ⟨evB e⟩)] Tryz.func53 rfl (enters Tryz.func53 (by kernel_rfl) rfl) Tryz.ntmps53 rfl rfl ?_
  refine WP.seq <| WP.region <| vn (S1.box rfl rfl) rfl fun b3 => v0 (S0.assign rfl) rfl <| vE <| WP.seq <| WP.seq <| WP.region <| v0 (S0.loadAL rfl) rfl <| ?_
  refine vcd (S1.callF rfl (revRight_spec ht) take0) rfl ?_
  refine v0 (S0.not rfl) rfl <| v0 (S0.move rfl) rfl <| ?_
  cases hr : rightE e with
  | false =>
    refine csTh (t := 8) rfl (rfl) ?_
    refine gF rfl rfl <| gF rfl rfl <| gF rfl rfl <| v0 (S0.pickT rfl rfl) rfl <| vE <| WP.condT rfl <| WP.seq <| WP.region <| v0 (S0.assign rfl) rfl <| vE <| WP.ret <| ?_
    refine r1 rfl rfl ?_
    exact ⟨by unfold whyK; rw [if_pos (.inl hr)], [(b3, cel (evB e) 41)], (pm fun a_ => by (try simp only [List.flatten_append, List.flatten_cons, List.flatten_nil, List.append_nil, List.cons_append, List.nil_append, List.append_assoc, nOf_app, nOf_cons, nOf_nil, Nat.add_zero, Nat.zero_add, List.map_append, List.map_cons, List.map_nil, cel, sv]); first | done | omega)⟩
  | true =>
    refine csFh (t := 8) rfl (rfl) ?_
    have hb := rightE_bd hr
    refine gT rfl <| v0 (S0.fieldAddr rfl) rfl <| gT rfl <| v0 (S0.load rfl rfl) rfl <| gT rfl <| v0 (S0.cmp rfl rfl rfl) rfl <| v0 (S0.pickF rfl rfl) rfl <| vE <| ?_
    first | refine WP.condP rfl (fun q1 => ?_) (fun q1 => ?_) | refine WP.condN rfl (fun q1 => ?_) (fun q1 => ?_) | refine WP.cond rfl (fun q1 => ?_) (fun q1 => ?_)
    · refine WP.seq <| WP.region <| v0 (S0.assign rfl) rfl <| vE <| WP.ret <| ?_
      refine r1 rfl rfl ?_
      exact ⟨by unfold whyK; rw [if_pos (.inr (by omega))], [(b3, cel (evB e) 41)], (pm fun a_ => by (try simp only [List.flatten_append, List.flatten_cons, List.flatten_nil, List.append_nil, List.cons_append, List.nil_append, List.append_assoc, nOf_app, nOf_cons, nOf_nil, Nat.add_zero, Nat.zero_add, List.map_append, List.map_cons, List.map_nil, cel, sv]); first | done | omega)⟩
    · have hw : whyK b e = if e.s ≤ seqK b e.o then 11 else if 64 ≤ b.L.length ∨ ((mkO b.M e.o).isNone = true ∧ 32 ≤ b.M.length) then 7 else 0 := by
        unfold whyK; rw [if_neg (fun e' => e'.elim (fun q => by rw [hr] at q; cases q) (fun q => by omega))]
      have hs0 : seqK b e.o = 0 ↔ (mkO b.M e.o).isNone = true := by
        unfold seqK
        cases hm : mkO b.M e.o with
        | none => simp
        | some n =>
          have := ((sortedM_iff.1 ho.ms).2.1 _ (mkO_mem hm)).2.2.1
          simp only [Option.getD_some, Option.isNone_some, Bool.false_eq_true, iff_false]
          dsimp only at this; omega
      refine WP.skip <| WP.seq <| WP.seq <| WP.drawP [(0, none), (1, none), (2, none), (3, none), (4, none), (5, none), (6, none)] mixed (by kernel_rfl) (by kernel_rfl) (by kernel_rfl) (take1 at0 (take1 at0 take0)) <| w0 rfl rfl rfl (S0.fieldAddr rfl) rfl <| w0 rfl rfl rfl (S0.load rfl rfl) rfl <| w0 rfl rfl rfl (S0.move rfl) rfl <| w0 rfl rfl rfl (S0.fieldAddr rfl) rfl <| w0 rfl rfl rfl (S0.load rfl rfl) rfl <| ?_
      refine wcS rfl rfl rfl rfl (S1.callF rfl (xseq_spec h0 ho e.o) (take1 (atS at0) take0)) rfl (take1 (atS at0) (take1 at0 take0)) ?_
      refine w0 rfl rfl rfl (S0.cmp rfl rfl rfl) rfl <| wE <| ?_
      first | refine WP.condP rfl (fun q2 => ?_) (fun q2 => ?_) | refine WP.condN rfl (fun q2 => ?_) (fun q2 => ?_) | refine WP.cond rfl (fun q2 => ?_) (fun q2 => ?_)
      · refine WP.seq <| WP.region <| v0 (S0.assign rfl) rfl <| vE <| WP.ret <| ?_
        refine r1 rfl rfl ?_
        exact ⟨by rw [hw, if_pos q2], [(b3, cel (evB e) 41)], (pm fun a_ => by (try simp only [List.flatten_append, List.flatten_cons, List.flatten_nil, List.append_nil, List.cons_append, List.nil_append, List.append_assoc, nOf_app, nOf_cons, nOf_nil, Nat.add_zero, Nat.zero_add, List.map_append, List.map_cons, List.map_nil, cel, sv]); first | done | omega)⟩
      · rw [if_neg q2] at hw
        refine WP.skip <| WP.seq <| WP.seq <| WP.region <| v0 (S0.move rfl) rfl <| v0 (S0.nilCheck rfl) rfl <| v0 (S0.fieldAddr rfl) rfl <| v0 (S0.load rfl rfl) rfl <| v0 (S0.lenSl rfl) rfl <| v0 (S0.cmp rfl rfl rfl) rfl <| v0 (S0.move rfl) rfl <| ?_
        first | refine csP (t := 26) rfl (fun q3 => ?_) (fun q3 => ?_) | refine csN (t := 26) rfl (fun q3 => ?_) (fun q3 => ?_) | refine cs (t := 26) rfl (fun q3 => ?_) (fun q3 => ?_)
        · refine gF rfl rfl <| gF rfl rfl <| gF rfl rfl <| gF rfl rfl <| gF rfl rfl <| gF rfl rfl <| gF rfl rfl <| gF rfl rfl <| gF rfl rfl <| gF rfl rfl <| gF rfl rfl <| gF rfl rfl <| gF rfl rfl <| v0 (S0.pickT rfl rfl) rfl <| vE <| WP.condT rfl <| WP.seq <| WP.region <| v0 (S0.assign rfl) rfl <| vE <| WP.ret <| ?_
          refine r1 rfl rfl ?_
          exact ⟨by rw [hw, if_pos (.inl (by omega))], [(b3, cel (evB e) 41)], (pm fun a_ => by (try simp only [List.flatten_append, List.flatten_cons, List.flatten_nil, List.append_nil, List.cons_append, List.nil_append, List.append_assoc, nOf_app, nOf_cons, nOf_nil, Nat.add_zero, Nat.zero_add, List.map_append, List.map_cons, List.map_nil, cel, sv]); first | done | omega)⟩
        · refine gT rfl <| v0 (S0.move rfl) rfl <| gT rfl <| v0 (S0.fieldAddr rfl) rfl <| gT rfl <| v0 (S0.load rfl rfl) rfl <| ?_
          refine gT rfl <| vcd (S1.callF rfl (xseq_spec h0 ho e.o) (take1 (atS at0) take0)) rfl ?_
          refine gT rfl <| v0 (S0.cmp rfl rfl rfl) rfl <| gT rfl <| v0 (S0.move rfl) rfl <| ?_
          first | refine csP (t := 32) rfl (fun q4 => ?_) (fun q4 => ?_) | refine csN (t := 32) rfl (fun q4 => ?_) (fun q4 => ?_) | refine cs (t := 32) rfl (fun q4 => ?_) (fun q4 => ?_)
          · refine gT rfl <| v0 (S0.move rfl) rfl <| gT rfl <| v0 (S0.nilCheck rfl) rfl <| gT rfl <| v0 (S0.fieldAddr rfl) rfl <| gT rfl <| v0 (S0.load rfl rfl) rfl <| gT rfl <| v0 (S0.lenSl rfl) rfl <| gT rfl <| v0 (S0.cmp rfl rfl rfl) rfl <| gT rfl <| v0 (S0.pickT rfl rfl) rfl <| v0 (S0.pickF rfl rfl) rfl <| vE <| ?_
            first | refine WP.condP rfl (fun q5 => ?_) (fun q5 => ?_) | refine WP.condN rfl (fun q5 => ?_) (fun q5 => ?_) | refine WP.cond rfl (fun q5 => ?_) (fun q5 => ?_)
            · refine WP.seq <| WP.region <| v0 (S0.assign rfl) rfl <| vE <| WP.ret <| ?_
              refine r1 rfl rfl ?_
              exact ⟨by rw [hw, if_pos (.inr ⟨hs0.1 q4, by omega⟩)], [(b3, cel (evB e) 41)], (pm fun a_ => by (try simp only [List.flatten_append, List.flatten_cons, List.flatten_nil, List.append_nil, List.cons_append, List.nil_append, List.append_assoc, nOf_app, nOf_cons, nOf_nil, Nat.add_zero, Nat.zero_add, List.map_append, List.map_cons, List.map_nil, cel, sv]); first | done | omega)⟩
            · refine WP.skip <| WP.seq <| WP.region <| v0 (S0.assign rfl) rfl <| vE <| WP.ret <| ?_
              refine r1 rfl rfl ?_
              exact ⟨by rw [hw, if_neg (fun q => by omega)], [(b3, cel (evB e) 41)], (pm fun a_ => by (try simp only [List.flatten_append, List.flatten_cons, List.flatten_nil, List.append_nil, List.cons_append, List.nil_append, List.append_assoc, nOf_app, nOf_cons, nOf_nil, Nat.add_zero, Nat.zero_add, List.map_append, List.map_cons, List.map_nil, cel, sv]); first | done | omega)⟩
          · refine gF rfl rfl <| gF rfl rfl <| gF rfl rfl <| gF rfl rfl <| gF rfl rfl <| gF rfl rfl <| gT rfl <| v0 (S0.pickF rfl rfl) rfl <| v0 (S0.pickF rfl rfl) rfl <| vE <| WP.condF rfl <| WP.skip <| WP.seq <| WP.region <| v0 (S0.assign rfl) rfl <| vE <| WP.ret <| ?_
            refine r1 rfl rfl ?_
            exact ⟨by rw [hw, if_neg (fun q => q.elim (fun q => by omega) (fun q => q4 (hs0.2 q.1)))], [(b3, cel (evB e) 41)], (pm fun a_ => by (try simp only [List.flatten_append, List.flatten_cons, List.flatten_nil, List.append_nil, List.cons_append, List.nil_append, List.append_assoc, nOf_app, nOf_cons, nOf_nil, Nat.add_zero, Nat.zero_add, List.map_append, List.map_cons, List.map_nil, cel, sv]); first | done | omega)⟩
end Go.Proofs.YtjpjebfodhbdfaaGreatDoor
namespace Go.Proofs.YtjpjebfodhbdfaaGreatDoor
open Go
theorem evsB_app (a b : List Ev) : evsB (a ++ b) = evsB a ++ evsB b := by unfold evsB; rw [List.flatMap_append]
theorem plcB_app (a b : List (Nat × Ev)) : plcB (a ++ b) = plcB a ++ plcB b := by unfold plcB ints; rw [List.map_append, List.map_append]
theorem xadd_spec {rk rl : Nat} {b : Ct} {cc : List Blk} (h : IsRCt rk rl b cc) (ho : CtW b) (hn : b.n ≤ 4000000000000) (e : Ev) : FN Tryz.prog 56 [ptrB rk, .agg ⟨evB e⟩] [cc] (fun _ h => ∃ cc', IsRCt rk rl (addK b e) cc' ∧ h = [cc']) := by
  obtain ⟨v1, row1, v2, row2, v3, row3, h1, h2, h3, rfl⟩ := h
  obtain ⟨a1, cap1, rfl, hcap1, -⟩ := IsSl.elems (k := 4) evB_len h1
  obtain ⟨a2, cap2, rfl, hcap2, -⟩ := h2.intsE
  obtain ⟨a3, cap3, rfl, hcap3, -⟩ := IsSl.elems (k := 1) enM_len h3
  obtain ⟨hris, hlM⟩ := ho.ris
  have hl := ho.len
  refine FN.intro 48 [(0, ptrB rk), (1, .agg ⟨evB e⟩)] Tryz.func56 rfl (enters Tryz.func56 (by kernel_rfl) rfl) Tryz.ntmps56 rfl rfl ?_
  refine WP.perm (h' := [[rbB rk rl (.slice a1 (b.L.map (·.2)).length cap1) (.slice a2 (b.L.map fun x => (x.1 : Int)).length cap2) (.slice a3 b.M.length cap3) (b.n : Int)], row1, row2, row3]) (k := []) (pm fun a_ => by (try simp only [List.flatten_append, List.flatten_cons, List.flatten_nil, List.append_nil, List.cons_append, List.nil_append, List.append_assoc, nOf_app, nOf_cons, nOf_nil, Nat.add_zero, Nat.zero_add, List.map_append, List.map_cons, List.map_nil, cel, sv]); first | done | omega) ?_
  refine WP.seq <| WP.region <| vn (S1.box rfl rfl) rfl fun b3 => vE <| WP.seq <| WP.region <| v0 (S0.move rfl) rfl <| v0 (S0.move rfl) rfl <| v0 (S0.nilCheck rfl) rfl <| v0 (S0.fieldAddr rfl) rfl <| v0 (S0.load rfl rfl) rfl <| v0 (S0.ari rfl rfl rfl (wrap_i64 (by omega))) rfl <| v0 (S0.nilCheck rfl) rfl <| v0 (S0.fieldAddr rfl) rfl <| vs (S1.store rfl rfl (by first | rfl | exact IsSl.cv (by assumption))) <| vE <| ?_
  refine WP.seq <| WP.drawP [(0, none), (1, none), (2, none), (3, none), (4, none), (5, none), (6, none), (7, none), (8, none), (9, none), (10, none)] mixed (by kernel_rfl) (by kernel_rfl) (by kernel_rfl) (take1 at0 (take1 at0 take0)) <| w0 rfl rfl rfl (S0.move rfl) rfl <| w0 rfl rfl rfl (S0.move rfl) rfl <| w0 rfl rfl rfl (S0.nilCheck rfl) rfl <| w0 rfl rfl rfl (S0.fieldAddr rfl) rfl <| w0 rfl rfl rfl (S0.load rfl rfl) rfl <| w0 rfl rfl rfl (S0.loadAL rfl) rfl <| wnv rfl rfl rfl rfl (S1.buildSlice rfl (qs := [(0, _)]) rfl rfl) rfl fun b18 => ?_
  rw [show (b.n : Int) + 1 = ((b.n + 1 : Nat) : Int) by omega]
  refine we rfl rfl rfl rfl (S1.appendL rfl h1 rfl rfl (atS at0) rfl rfl (by rw [evsB_len, List.length_map]; simp; omega)) rfl ?_
  rintro w1 _ ⟨row1', h1', rfl⟩
  obtain ⟨a1', cap1', rfl, -, -⟩ := IsSl.elems (k := 4) (R := (b.L ++ [(b.n + 1, e)]).map (·.2)) evB_len (by rw [List.map_append, List.flatMap_append]; exact h1')
  refine w0 rfl rfl rfl (S0.nilCheck rfl) rfl <| w0 rfl rfl rfl (S0.fieldAddr rfl) rfl <| ?_
  refine wlast rfl (by kernel_rfl) rfl rfl (S1.store rfl rfl rfl) ?_
  refine WP.seq <| WP.drawP [(0, none), (1, none), (2, none), (3, none), (4, none), (5, none), (6, none), (7, none), (8, none), (9, none), (10, none), (11, none), (12, none), (13, none)] mixed (by kernel_rfl) (by kernel_rfl) (by kernel_rfl) (take1 (atS at0) take0) <| w0 rfl rfl rfl (S0.move rfl) rfl <| w0 rfl rfl rfl (S0.move rfl) rfl <| w0 rfl rfl rfl (S0.nilCheck rfl) rfl <| w0 rfl rfl rfl (S0.fieldAddr rfl) rfl <| w0 rfl rfl rfl (S0.load rfl rfl) rfl <| w0 rfl rfl rfl (S0.move rfl) rfl <| w0 rfl rfl rfl (S0.nilCheck rfl) rfl <| w0 rfl rfl rfl (S0.fieldAddr rfl) rfl <| w0 rfl rfl rfl (S0.load rfl rfl) rfl <| wnv rfl rfl rfl rfl (S1.buildSlice rfl (qs := [(0, _)]) rfl rfl) rfl fun b31 => ?_
  refine we rfl rfl rfl rfl (S1.appendL rfl h2 rfl rfl (atS (atS (atS (atS at0)))) rfl rfl (by rw [ints_len, List.length_map]; simp; omega)) rfl ?_
  rintro w2 _ ⟨row2', h2', rfl⟩
  obtain ⟨a2', cap2', rfl, -, -⟩ := IsSl.intsE (R := (b.L ++ [(b.n + 1, e)]).map fun x => (x.1 : Int)) (by rw [List.map_append, ints, List.map_append]; exact h2')
  refine w0 rfl rfl rfl (S0.nilCheck rfl) rfl <| w0 rfl rfl rfl (S0.fieldAddr rfl) rfl <| ?_
  refine wlast rfl (by kernel_rfl) rfl rfl (S1.store rfl rfl rfl) ?_
  refine WP.drawP [(0, none), (1, none), (2, none), (3, none), (4, none), (5, none), (6, none), (7, none), (8, none), (9, none), (10, none), (11, none), (12, none), (13, none)] mixed (by kernel_rfl) (by kernel_rfl) (by kernel_rfl) (take1 at0 (take1 (atS (atS at0)) take0)) <| w0 rfl rfl rfl (S0.move rfl) rfl <| w0 rfl rfl rfl (S0.move rfl) rfl <| w0 rfl rfl rfl (S0.nilCheck rfl) rfl <| w0 rfl rfl rfl (S0.fieldAddr rfl) rfl <| w0 rfl rfl rfl (S0.load rfl rfl) rfl <| w0 rfl rfl rfl (S0.fieldAddr rfl) rfl <| w0 rfl rfl rfl (S0.load rfl rfl) rfl <| w0 rfl rfl rfl (S0.fieldAddr rfl) rfl <| w0 rfl rfl rfl (S0.load rfl rfl) rfl <| w0 rfl rfl rfl (S0.build rfl (qs := [(0, _), (1, _)]) rfl) rfl <| ?_
  refine wc rfl rfl rfl rfl (S1.callF rfl (rMark_spec (m := (e.o, e.s)) h3 hris (by omega)) (take1 (atS (atS (atS (atS at0)))) take0)) rfl ?_
  rintro w3 _ ⟨row3', h3', rfl⟩
  refine wapp ?_
  obtain ⟨a3', cap3', rfl, -, -⟩ := IsSl.elems (k := 1) enM_len h3'
  refine w0 rfl rfl rfl (S0.nilCheck rfl) rfl <| w0 rfl rfl rfl (S0.fieldAddr rfl) rfl <| ?_
  refine wlast rfl (by kernel_rfl) rfl rfl (S1.store rfl rfl rfl) ?_
  refine Leaves.drop (h' := [rbB rk rl (.slice a1' ((b.L ++ [(b.n + 1, e)]).map (·.2)).length cap1') (.slice a2' ((b.L ++ [(b.n + 1, e)]).map fun x => (x.1 : Int)).length cap2') (.slice a3' (setMk b.M (e.o, e.s)).length cap3') ((b.n + 1 : Nat) : Int) :: (row1' ++ (row2' ++ row3'))]) (k := [row3, [(b3, cel (evB e) 41)], [(b18, cel (evB e) 41)], [(b31, cel [.int .i64 ((b.n + 1 : Nat) : Int)] 3)]]) (pm fun a_ => by (try simp only [List.flatten_append, List.flatten_cons, List.flatten_nil, List.append_nil, List.cons_append, List.nil_append, List.append_assoc, nOf_app, nOf_cons, nOf_nil, Nat.add_zero, Nat.zero_add, List.map_append, List.map_cons, List.map_nil, cel, sv, rbB, evB]); first | done | omega) ?_
  refine r0 rfl ?_
  refine ⟨_, ⟨_, row1', _, row2', _, row3', ?_, ?_, h3', rfl⟩, rfl⟩
  · show IsSl 41 5 _ (evsB ((b.L ++ [(b.n + 1, e)]).map (·.2))) row1'
    have e1 : evsB ((b.L ++ [(b.n + 1, e)]).map (·.2)) = evsB (b.L.map (·.2)) ++ evB e := by rw [List.map_append, evsB_app]; rfl
    rw [e1]; exact h1'
  · show IsSl 3 1 _ (plcB (b.L ++ [(b.n + 1, e)])) row2'
    have e2 : plcB (b.L ++ [(b.n + 1, e)]) = plcB b.L ++ [.int .i64 ((b.n + 1 : Nat) : Int)] := by rw [plcB_app]; rfl
    rw [e2]; exact h2'
theorem xage_spec {rk rl : Nat} {b : Ct} {cc : List Blk} (h : IsRCt rk rl b cc) (ho : CtW b) {n : Int} (hn : n ≤ 1000) : FN Tryz.prog 60 [ptrB rk, .int .i64 n] [cc] (fun _ h => ∃ cc', IsRCt rk rl (ageK b n) cc' ∧ h = [cc']) := by
  obtain ⟨v1, row1, v2, row2, v3, row3, h1, h2, h3, rfl⟩ := h
  obtain ⟨a1, cap1, rfl, hcap1, hrow1⟩ := IsSl.elems (k := 4) evB_len h1
  obtain ⟨a2, cap2, rfl, hcap2, hrow2⟩ := h2.intsE
  have hl := ho.len
  have hL1 : (b.L.map (·.2)).length = b.L.length := List.length_map _
  have hL2 : (b.L.map fun x => (x.1 : Int)).length = b.L.length := List.length_map _
  refine FN.intro 53 [(0, ptrB rk), (1, .int .i64 n)] Tryz.func60 rfl (enters Tryz.func60 (by kernel_rfl) rfl) Tryz.ntmps60 rfl rfl ?_
  refine WP.perm (h' := [[rbB rk rl (.slice a1 (b.L.map (·.2)).length cap1) (.slice a2 (b.L.map fun x => (x.1 : Int)).length cap2) v3 (b.n : Int)], row1, row2, row3]) (k := []) (pm fun a_ => by (try simp only [List.flatten_append, List.flatten_cons, List.flatten_nil, List.append_nil, List.cons_append, List.nil_append, List.append_assoc, nOf_app, nOf_cons, nOf_nil, Nat.add_zero, Nat.zero_add, List.map_append, List.map_cons, List.map_nil, cel, sv]); first | done | omega) ?_
  refine WP.seq <| WP.region <| vnv (S1.buildSlice rfl (qs := []) rfl rfl) rfl fun b8 => vnv (S1.buildSlice rfl (qs := []) rfl rfl) rfl fun b9 => v0 (S0.assign rfl) rfl <| v0 (S0.assign rfl) rfl <| vE <| WP.seq <| WP.seq <| WP.region <| v0 (S0.assign rfl) rfl <| vE <| WP.block <| ?_
  refine WP.loop (fun st : Nat × Value × List Blk × Value × List Blk => st.1 ≤ b.L.length ∧ IsSl 41 5 st.2.1 (evsB ((ageL (b.L.take st.1) n).map (·.2))) st.2.2.1 ∧ IsSl 3 1 st.2.2.2.1 (plcB (ageL (b.L.take st.1) n)) st.2.2.2.2) (fun st : Nat × Value × List Blk × Value × List Blk => [(0, ptrB rk), (1, .int .i64 n), (4, st.2.1), (5, st.2.2.2.1), (6, .int .i64 (st.1 : Int))]) (fun st : Nat × Value × List Blk × Value × List Blk => [st.2.2.1, st.2.2.2.2, row1, row2, [rbB rk rl (.slice a1 (b.L.map (·.2)).length cap1) (.slice a2 (b.L.map fun x => (x.1 : Int)).length cap2) v3 (b.n : Int)], row3]) (fun st : Nat × Value × List Blk × Value × List Blk => b.L.length - st.1) ((0, .slice (some ⟨b8, 0, none⟩) 0 0, [(b8, .cells ⟨[]⟩ 41 (0, 0))], .slice (some ⟨b9, 0, none⟩) 0 0, [(b9, .cells ⟨[]⟩ 3 (0, 0))])) (⟨Nat.zero_le _, IsSl.row (n := 0) (c := 0) (l := []) (sp := []) rfl rfl (Nat.le_refl _), IsSl.row (n := 0) (c := 0) (l := []) (sp := []) rfl rfl (Nat.le_refl _)⟩) ⟨rfl, rfl, rfl, rfl, rfl, trivial⟩ ⟨[], (pm fun a_ => by (try simp only [List.flatten_append, List.flatten_cons, List.flatten_nil, List.append_nil, List.cons_append, List.nil_append, List.append_assoc, nOf_app, nOf_cons, nOf_nil, Nat.add_zero, Nat.zero_add, List.map_append, List.map_cons, List.map_nil, cel, sv]); first | done | omega)⟩ (fun st hinv => ?_)
  obtain ⟨k, o1, or1, o2, or2⟩ := st
  obtain ⟨hk, hs1, hs2⟩ := hinv
  dsimp only at hk hs1 hs2 ⊢
  refine WP.seq <| WP.seq <| WP.region <| v0 (S0.move rfl) rfl <| v0 (S0.move rfl) rfl <| v0 (S0.nilCheck rfl) rfl <| v0 (S0.fieldAddr rfl) rfl <| v0 (S0.load rfl rfl) rfl <| v0 (S0.lenSl rfl) rfl <| v0 (S0.cmp rfl rfl rfl) rfl <| vE <| ?_
  first | refine WP.condP rfl (fun q1 => ?_) (fun q1 => ?_) | refine WP.condN rfl (fun q1 => ?_) (fun q1 => ?_) | refine WP.cond rfl (fun q1 => ?_) (fun q1 => ?_)
  · have hlt : k < b.L.length := by omega
    rcases hrow1 with ⟨e, -⟩ | ⟨b1, sp1, rfl, rfl, hsp1⟩
    · have := congrArg List.length e; simp at this; rw [this] at hlt; simp at hlt
    rcases hrow2 with ⟨e, -⟩ | ⟨b2, sp2, rfl, rfl, hsp2⟩
    · have := congrArg List.length e; simp at this; rw [this] at hlt; simp at hlt
    have hx : b.L[k]? = some b.L[k] := by simp [hlt]
    have hxm := ho.ev _ (List.getElem_mem hlt)
    generalize b.L[k] = x at hx hxm
    have hx1 : (b.L.map (·.2))[k]? = some x.2 := by simp [hx]
    have hx2 : (b.L.map fun x => (x.1 : Int))[k]? = some (x.1 : Int) := by simp [hx]
    have gA := flat_take evB_len sp1 _ k x.2 hx1
    have hxb := rightE_bd hxm.1
    have htk : b.L.take (k + 1) = b.L.take k ++ [x] := by rw [List.take_add_one, hx]; rfl
    have hsn := ageL_snoc (b.L.take k) x n
    rw [← htk] at hsn
    have hal := ageL_len (b.L.take k) n
    have htl : (b.L.take k).length ≤ 64 := by rw [List.length_take]; omega
    refine WP.skip <| WP.seq <| WP.block <| WP.seq <| WP.region <| v0 (S0.move rfl) rfl <| v0 (S0.nilCheck rfl) rfl <| v0 (S0.fieldAddr rfl) rfl <| v0 (S0.load rfl rfl) rfl <| v0 (S0.move rfl) rfl <| ?_
    refine v0 (S0.indexN (k := 5) rfl rfl (by omega)) rfl <| ?_
    refine v0 (S0.loadA rfl gA rfl) rfl <| ?_
    refine v0 (S0.move rfl) rfl <| ?_
    refine vcd (S1.callF rfl (reage_spec (e := x.2) (by omega) (n := n) (by omega)) take0) rfl ?_
    refine vn (S1.alloc) rfl fun b7 => vs (S1.storeA rfl rfl rfl) <| vE <| WP.seq <| WP.region <| v0 (S0.fieldAddr rfl) rfl <| v0 (S0.load rfl rfl) rfl <| v0 (S0.cmp rfl rfl rfl) rfl <| vE <| ?_
    first | refine WP.condP rfl (fun q2 => ?_) (fun q2 => ?_) | refine WP.condN rfl (fun q2 => ?_) (fun q2 => ?_) | refine WP.cond rfl (fun q2 => ?_) (fun q2 => ?_)
    · rw [if_pos q2] at hsn
      refine WP.seq <| WP.region <| v0 (S0.move rfl) rfl <| v0 (S0.loadAL rfl) rfl <| vnv (S1.buildSlice rfl (qs := [(0, _)]) rfl rfl) rfl fun b33 => ?_
      refine ve (S1.appendL rfl hs1 rfl rfl (atS (atS at0)) rfl rfl (by rw [evsB_len, List.length_map]; simp; omega)) rfl ?_
      rintro w1 _ ⟨row1', h1', rfl⟩
      refine v0 (S0.assign rfl) rfl <| vE <| WP.region <| v0 (S0.move rfl) rfl <| v0 (S0.move rfl) rfl <| v0 (S0.nilCheck rfl) rfl <| v0 (S0.fieldAddr rfl) rfl <| v0 (S0.load rfl rfl) rfl <| v0 (S0.move rfl) rfl <| ?_
      refine v0 (S0.index1 rfl rfl (by omega)) rfl <| ?_
      refine v0 (S0.load rfl (ints_get hx2)) rfl <| ?_
      refine vnv (S1.buildSlice rfl (qs := [(0, _)]) rfl rfl) rfl fun b43 => ?_
      refine ve (S1.appendL rfl hs2 rfl rfl (atS (atS (atS (atS at0)))) rfl rfl (by rw [ints_len, List.length_map]; simp; omega)) rfl ?_
      rintro w2 _ ⟨row2', h2', rfl⟩
      have hs3 : IsSl 41 5 w1 (evsB ((ageL (b.L.take (k + 1)) n).map (·.2))) row1' := by
        rw [hsn, List.map_append, evsB_app]; exact h1'
      have hs4 : IsSl 3 1 w2 (plcB (ageL (b.L.take (k + 1)) n)) row2' := by
        rw [hsn, plcB_app]; exact h2'
      refine v0 (S0.assign rfl) rfl <| vE <| WP.region <| v0 (S0.move rfl) rfl <| v0 (S0.ari rfl rfl rfl (wrap_i64 (by omega))) rfl <| v0 (S0.assign rfl) rfl <| vE <| ?_
      exact ⟨(k + 1, w1, row1', w2, row2'), (by first | exact ⟨hlt, hs3, hs4⟩ | (dsimp only; exact ⟨hlt, hs3, hs4⟩)), (show b.L.length - (k + 1) < b.L.length - k by omega), ⟨⟨rfl, rfl, rfl, rfl, rfl, trivial⟩, rfl, rfl⟩, ⟨_, (take1 (atS (atS at0)) (take1 at0 (take1 (atS (atS (atS at0))) (take1 (atS (atS (atS at0))) (take1 (atS (atS (atS at0))) (take1 (atS (atS (atS at0))) take0))))))⟩⟩
    · rw [if_neg q2, List.append_nil] at hsn
      refine WP.skip <| WP.region <| v0 (S0.move rfl) rfl <| v0 (S0.ari rfl rfl rfl (wrap_i64 (by omega))) rfl <| v0 (S0.assign rfl) rfl <| vE <| ?_
      exact ⟨(k + 1, o1, or1, o2, or2), (by first | exact ⟨hlt, by rw [hsn]; exact hs1, by rw [hsn]; exact hs2⟩ | (dsimp only; exact ⟨hlt, by rw [hsn]; exact hs1, by rw [hsn]; exact hs2⟩)), (show b.L.length - (k + 1) < b.L.length - k by omega), ⟨⟨rfl, rfl, rfl, rfl, rfl, trivial⟩, rfl, rfl⟩, ⟨_, (take1 (atS at0) (take1 (atS at0) (take1 (atS at0) (take1 (atS at0) (take1 (atS at0) (take1 (atS at0) take0))))))⟩⟩
  · have e : k = b.L.length := by omega
    rw [e, List.take_length] at hs1 hs2
    obtain ⟨a1', cap1', rfl, -, -⟩ := IsSl.elems (k := 4) evB_len hs1
    obtain ⟨a2', cap2', rfl, -, -⟩ := hs2.intsE
    refine WP.exit <| WP.seq <| WP.region <| v0 (S0.move rfl) rfl <| v0 (S0.move rfl) rfl <| v0 (S0.nilCheck rfl) rfl <| v0 (S0.fieldAddr rfl) rfl <| vs (S1.store rfl rfl (by first | rfl | exact IsSl.cv (by assumption))) <| vE <| WP.region <| v0 (S0.move rfl) rfl <| v0 (S0.move rfl) rfl <| v0 (S0.nilCheck rfl) rfl <| v0 (S0.fieldAddr rfl) rfl <| vs (S1.store rfl rfl (by first | rfl | exact IsSl.cv (by assumption))) <| vE <| ?_
    refine Leaves.drop (h' := [rbB rk rl (.slice a1' ((ageL b.L n).map (·.2)).length cap1') (.slice a2' ((ageL b.L n).map fun x => (x.1 : Int)).length cap2') v3 (b.n : Int) :: (or1 ++ (or2 ++ row3))]) (k := [row1, row2]) (pm fun a_ => by (try simp only [List.flatten_append, List.flatten_cons, List.flatten_nil, List.append_nil, List.cons_append, List.nil_append, List.append_assoc, nOf_app, nOf_cons, nOf_nil, Nat.add_zero, Nat.zero_add, List.map_append, List.map_cons, List.map_nil, cel, sv, rbB]); first | done | omega) ?_
    refine r0 rfl ?_
    exact ⟨_, ⟨_, or1, _, or2, _, row3, hs1, hs2, h3, rfl⟩, rfl⟩
theorem xbytes_spec {rk rl : Nat} {b : Ct} {cc : List Blk} (h : IsRCt rk rl b cc) (ho : CtW b) (hn : b.n ≤ 4000000000000) : FN Tryz.prog 102 [ptrB rk] [cc] (is (sv (bytesK b)) [cc]) := by
  obtain ⟨v1, row1, v2, row2, v3, row3, h1, h2, h3, rfl⟩ := h
  obtain ⟨a1, cap1, rfl, hcap1, hrow1⟩ := IsSl.elems (k := 4) evB_len h1
  obtain ⟨a2, cap2, rfl, hcap2, hrow2⟩ := h2.intsE
  have h30 := h3
  obtain ⟨a3, cap3, rfl, hcap3, hrow3⟩ := IsSl.elems (k := 1) enM_len h3
  obtain ⟨hris, hlM⟩ := ho.ris
  have hl := ho.len
  have hL1 : (b.L.map (·.2)).length = b.L.length := List.length_map _
  have hL2 : (b.L.map fun x => (x.1 : Int)).length = b.L.length := List.length_map _
  have l1 := putV_le b.n
  have l2 := mksB_le b.M
  have l3 := putV_le b.L.length
  refine FN.rest ?_
  refine FN.intro 55 [(0, ptrB rk)] Tryz.func102 rfl (enters Tryz.func102 (by kernel_rfl) rfl) Tryz.ntmps102 rfl rfl ?_
  refine WP.perm (h' := [[rbB rk rl (.slice a1 (b.L.map (·.2)).length cap1) (.slice a2 (b.L.map fun x => (x.1 : Int)).length cap2) (.slice a3 b.M.length cap3) (b.n : Int)], row1, row2, row3]) (k := []) (pm fun a_ => by (try simp only [List.flatten_append, List.flatten_cons, List.flatten_nil, List.append_nil, List.cons_append, List.nil_append, List.append_assoc, nOf_app, nOf_cons, nOf_nil, Nat.add_zero, Nat.zero_add, List.map_append, List.map_cons, List.map_nil, cel, sv]); first | done | omega) ?_
  refine WP.seq <| WP.region <| v0 (S0.assign rfl) rfl <| vE <| ?_
  refine WP.seq <| WP.drawP [(0, none), (1, none), (2, none), (3, none), (4, none), (6, none), (7, none), (8, none), (9, none), (12, none), (13, none), (14, none), (15, none), (16, none), (17, none), (5, none), (10, none), (11, none), (18, none), (19, none), (20, none)] mixed (by kernel_rfl) (by kernel_rfl) (by kernel_rfl) (take1 at0 take0) <| w0 rfl rfl rfl (S0.move rfl) rfl <| w0 rfl rfl rfl (S0.nilCheck rfl) rfl <| w0 rfl rfl rfl (S0.fieldAddr rfl) rfl <| w0 rfl rfl rfl (S0.load rfl rfl) rfl <| w0 rfl rfl rfl (S0.convI rfl (wrap_u64 (by omega))) rfl <| w0 rfl rfl rfl (S0.move rfl) rfl <| w0 rfl rfl rfl (S0.nilCheck rfl) rfl <| w0 rfl rfl rfl (S0.fieldAddr rfl) rfl <| w0 rfl rfl rfl (S0.load rfl rfl) rfl <| w0 rfl rfl rfl (S0.move rfl) rfl <| w0 rfl rfl rfl (S0.nilCheck rfl) rfl <| w0 rfl rfl rfl (S0.fieldAddr rfl) rfl <| w0 rfl rfl rfl (S0.load rfl rfl) rfl <| w0 rfl rfl rfl (S0.lenSl rfl) rfl <| w0 rfl rfl rfl (S0.convI rfl (wrap_u64 (by omega))) rfl <| ?_
  refine wcd rfl rfl rfl rfl (S1.callF rfl (rput_spec (n := b.n) (by omega)) take0) rfl ?_
  refine wcd rfl rfl rfl rfl (S1.callF rfl (rmarks_spec h30 (by omega)) (take1 (atS (atS at0)) take0)) rfl ?_
  refine w0 rfl rfl rfl (S0.addS rfl rfl (by omega)) rfl <| ?_
  rw [hL1]
  refine wcd rfl rfl rfl rfl (S1.callF rfl (rput_spec (n := b.L.length) (by omega)) take0) rfl ?_
  refine w0 rfl rfl rfl (S0.addS rfl rfl (by rw [List.length_append]; omega)) rfl <| ?_
  refine w0 rfl rfl rfl (S0.assign rfl) rfl <| wE <| WP.seq <| WP.seq <| WP.region <| v0 (S0.assign rfl) rfl <| vE <| WP.block <| ?_
  rw [show putV b.n ++ marksB b.M ++ putV b.L.length = (putV b.n ++ marksB b.M ++ putV b.L.length) ++ (b.L.take 0).flatMap entB by simp]
  refine WP.loop (fun k : Nat => k ≤ b.L.length) (fun k : Nat => [(0, ptrB rk), (3, sv ((putV b.n ++ marksB b.M ++ putV b.L.length) ++ (b.L.take k).flatMap entB)), (4, .int .i64 (k : Int))]) (fun k : Nat => [[rbB rk rl (.slice a1 b.L.length cap1) (.slice a2 (b.L.map fun x => (x.1 : Int)).length cap2) (.slice a3 b.M.length cap3) (b.n : Int)], row3, row1, row2]) (fun k : Nat => b.L.length - k) (0) (Nat.zero_le _) ⟨rfl, rfl, rfl, trivial⟩ ⟨_, (take1 at0 (take1 at0 (take1 at0 (take1 at0 take0))))⟩ (fun k hinv => ?_)
  have hte := ents_le (b.L.take k) fun y hy => (ho.ev y (List.mem_of_mem_take hy)).1
  have htl : (b.L.take k).length ≤ 64 := by rw [List.length_take]; omega
  refine WP.seq <| WP.seq <| WP.region <| v0 (S0.move rfl) rfl <| v0 (S0.move rfl) rfl <| v0 (S0.nilCheck rfl) rfl <| v0 (S0.fieldAddr rfl) rfl <| v0 (S0.load rfl rfl) rfl <| v0 (S0.lenSl rfl) rfl <| v0 (S0.cmp rfl rfl rfl) rfl <| vE <| ?_
  first | refine WP.condP rfl (fun q1 => ?_) (fun q1 => ?_) | refine WP.condN rfl (fun q1 => ?_) (fun q1 => ?_) | refine WP.cond rfl (fun q1 => ?_) (fun q1 => ?_)
  · have hlt : k < b.L.length := by omega
    rcases hrow1 with ⟨e, -⟩ | ⟨b1, sp1, rfl, rfl, hsp1⟩
    · have := congrArg List.length e; simp at this; rw [this] at hlt; simp at hlt
    rcases hrow2 with ⟨e, -⟩ | ⟨b2, sp2, rfl, rfl, hsp2⟩
    · have := congrArg List.length e; simp at this; rw [this] at hlt; simp at hlt
    have hx : b.L[k]? = some b.L[k] := by simp [hlt]
    have hxm := ho.ev _ (List.getElem_mem hlt)
    generalize b.L[k] = x at hx hxm
    have hx1 : (b.L.map (·.2))[k]? = some x.2 := by simp [hx]
    have hx2 : (b.L.map fun x => (x.1 : Int))[k]? = some (x.1 : Int) := by simp [hx]
    have gA := flat_take evB_len sp1 _ k x.2 hx1
    have htk : (b.L.take (k + 1)).flatMap entB = (b.L.take k).flatMap entB ++ (putV x.1 ++ putE x.2) := by rw [List.take_add_one, hx]; simp
    obtain ⟨ht1, ht2⟩ := right_tl hxm.1
    have hpe := putE_le hxm.1
    have hpx := putV_le x.1
    refine WP.skip <| WP.seq <| WP.block <| WP.drawP [(0, none), (1, none), (2, none), (3, none), (4, none), (5, none), (6, none), (7, none), (8, none), (10, none), (11, none), (12, none), (13, none), (14, none), (15, none), (16, none), (9, none), (17, none), (18, none), (19, none), (20, none)] mixed (by kernel_rfl) (by kernel_rfl) (by kernel_rfl) (take1 at0 (take1 (atS at0) (take1 (atS at0) take0))) <| w0 rfl rfl rfl (S0.move rfl) rfl <| w0 rfl rfl rfl (S0.move rfl) rfl <| w0 rfl rfl rfl (S0.nilCheck rfl) rfl <| w0 rfl rfl rfl (S0.fieldAddr rfl) rfl <| w0 rfl rfl rfl (S0.load rfl rfl) rfl <| w0 rfl rfl rfl (S0.move rfl) rfl <| ?_
    refine w0 rfl rfl rfl (S0.index1 rfl rfl (by omega)) rfl <| ?_
    refine w0 rfl rfl rfl (S0.load rfl (ints_get hx2)) rfl <| ?_
    refine w0 rfl rfl rfl (S0.convI rfl (wrap_u64 (by omega))) rfl <| w0 rfl rfl rfl (S0.move rfl) rfl <| w0 rfl rfl rfl (S0.nilCheck rfl) rfl <| w0 rfl rfl rfl (S0.fieldAddr rfl) rfl <| w0 rfl rfl rfl (S0.load rfl rfl) rfl <| w0 rfl rfl rfl (S0.move rfl) rfl <| ?_
    refine w0 rfl rfl rfl (S0.indexN (k := 5) rfl rfl hlt) rfl <| ?_
    refine w0 rfl rfl rfl (S0.loadA rfl gA rfl) rfl <| ?_
    refine wcd rfl rfl rfl rfl (S1.callF rfl (rput_spec (n := x.1) (by omega)) take0) rfl ?_
    refine wcd rfl rfl rfl rfl (S1.callF rfl (reput_spec (e := x.2) (by omega) (by omega)) take0) rfl ?_
    refine w0 rfl rfl rfl (S0.addS rfl rfl (by omega)) rfl <| ?_
    refine w0 rfl rfl rfl (S0.addS rfl rfl (by simp only [List.length_append]; omega)) rfl <| ?_
    rw [List.append_assoc _ ((b.L.take k).flatMap entB), ← htk]
    refine w0 rfl rfl rfl (S0.assign rfl) rfl <| wE <| WP.region <| v0 (S0.move rfl) rfl <| v0 (S0.ari rfl rfl rfl (wrap_i64 (by omega))) rfl <| v0 (S0.assign rfl) rfl <| vE <| ?_
    exact ⟨k + 1, (by first | exact hlt | (dsimp only; exact hlt)), (show b.L.length - (k + 1) < b.L.length - k by omega), ⟨⟨rfl, rfl, rfl, trivial⟩, rfl, rfl⟩, ⟨_, (take1 at0 (take1 (atS (atS at0)) (take1 at0 (take1 at0 take0))))⟩⟩
  · have e : k = b.L.length := by omega
    rw [e, List.take_length]
    refine WP.exit <| WP.seq <| WP.region <| v0 (S0.move rfl) rfl <| v0 (S0.assign rfl) rfl <| vE <| WP.ret <| ?_
    refine r1 rfl rfl ?_
    exact ⟨rfl, [], (pm fun a_ => by (try simp only [List.flatten_append, List.flatten_cons, List.flatten_nil, List.append_nil, List.cons_append, List.nil_append, List.append_assoc, nOf_app, nOf_cons, nOf_nil, Nat.add_zero, Nat.zero_add, List.map_append, List.map_cons, List.map_nil, cel, sv]); first | done | omega)⟩
theorem eqEv (x y : Ev) : (decide (x.o = y.o) && (decide (x.s = y.s) && (decide (x.t = y.t) && (decide (x.l = y.l) && (decide (x.e = y.e) && true))))) = decide (x = y) := by
  obtain ⟨o, s, t, l, e⟩ := x
  obtain ⟨o', s', t', l', e'⟩ := y
  rw [Bool.eq_iff_iff]; simp
theorem xequal_spec {v1 v2 : Value} {q1 q2 : List Blk} {a b : List Ev} (h1 : IsSl 41 5 v1 (evsB a) q1) (h2 : IsSl 41 5 v2 (evsB b) q2) (ha : a.length ≤ 1000000) : FN Tryz.prog 24 [v1, v2] [q1, q2] (is (.bool (decide (a = b))) [q1, q2]) := by
  obtain ⟨a1, c1, rfl, hc1, hr1⟩ := IsSl.elems (k := 4) evB_len h1
  obtain ⟨a2, c2, rfl, hc2, hr2⟩ := IsSl.elems (k := 4) evB_len h2
  refine FN.intro 26 [(0, .slice a1 a.length c1), (1, .slice a2 b.length c2)] Tryz.func24 rfl (enters Tryz.func24 (by kernel_rfl) rfl) Tryz.ntmps24 rfl rfl ?_
  refine WP.seq <| WP.region <| v0 (S0.assign rfl) rfl <| vE <| WP.seq <| WP.seq <| WP.region <| v0 (S0.move rfl) rfl <| v0 (S0.lenSl rfl) rfl <| v0 (S0.move rfl) rfl <| v0 (S0.lenSl rfl) rfl <| v0 (S0.cmp rfl rfl rfl) rfl <| vE <| ?_
  first | refine WP.condP rfl (fun hl => ?_) (fun hl => ?_) | refine WP.condN rfl (fun hl => ?_) (fun hl => ?_) | refine WP.cond rfl (fun hl => ?_) (fun hl => ?_)
  · refine WP.seq <| WP.region <| v0 (S0.assign rfl) rfl <| vE <| WP.ret <| ?_
    refine r1 rfl rfl ⟨?_, rfl⟩
    have : a ≠ b := fun e => hl (by rw [e])
    simp [this]
  · refine WP.skip <| WP.seq <| WP.seq <| WP.region <| v0 (S0.assign rfl) rfl <| vE <| WP.block <| ?_
    refine WP.loop (fun i : Nat => i ≤ a.length ∧ a.take i = b.take i) (fun i : Nat => [(0, .slice a1 a.length c1), (1, .slice a2 b.length c2), (5, .int .i64 (i : Int))]) (fun i : Nat => [q1, q2]) (fun i : Nat => a.length - i) (0) (⟨by omega, rfl⟩) ⟨rfl, rfl, rfl, trivial⟩ ⟨_, (take1 at0 (take1 at0 take0))⟩ (fun i hinv => ?_)
    obtain ⟨hi, htk⟩ := hinv
    refine WP.seq <| WP.seq <| WP.region <| v0 (S0.move rfl) rfl <| v0 (S0.move rfl) rfl <| v0 (S0.lenSl rfl) rfl <| v0 (S0.cmp rfl rfl rfl) rfl <| vE <| ?_
    first | refine WP.condP rfl (fun h3 => ?_) (fun h3 => ?_) | refine WP.condN rfl (fun h3 => ?_) (fun h3 => ?_) | refine WP.cond rfl (fun h3 => ?_) (fun h3 => ?_)
    · have hlt : i < a.length := by omega
      have hlt2 : i < b.length := by omega
      rcases hr1 with ⟨rfl, -⟩ | ⟨b1, sp1, rfl, rfl, hsp1⟩
      · simp at hlt
      rcases hr2 with ⟨rfl, -⟩ | ⟨b2, sp2, rfl, rfl, hsp2⟩
      · simp at hlt2
      have hx : a[i]? = some a[i] := by simp [hlt]
      have hy : b[i]? = some b[i] := by simp [hlt2]
      generalize a[i] = x at hx
      generalize b[i] = y at hy
      refine WP.skip <| WP.seq <| WP.block <| WP.seq <| WP.drawP [(0, none), (1, none), (2, none), (3, none), (4, none), (5, none), (6, none), (7, none), (8, none)] mixed (by kernel_rfl) (by kernel_rfl) (by kernel_rfl) (take1 at0 (take1 at0 take0)) <| w0 rfl rfl rfl (S0.move rfl) rfl <| w0 rfl rfl rfl (S0.move rfl) rfl <| ?_
      refine w0 rfl rfl rfl (S0.indexN (k := 5) rfl rfl hlt) rfl <| ?_
      refine w0 rfl rfl rfl (S0.loadA (vs := evB x) rfl (flat_take evB_len sp1 a i _ hx) rfl) rfl <| ?_
      refine w0 rfl rfl rfl (S0.move rfl) rfl <| w0 rfl rfl rfl (S0.move rfl) rfl <| ?_
      refine w0 rfl rfl rfl (S0.indexN (k := 5) rfl rfl hlt2) rfl <| ?_
      refine w0 rfl rfl rfl (S0.loadA (vs := evB y) rfl (flat_take evB_len sp2 b i _ hy) rfl) rfl <| ?_
      refine w0 rfl rfl rfl (S0.eqAg rfl rfl rfl rfl) rfl <| wE <| ?_
      rw [eqEv]
      by_cases e : x = y
      · subst e
        refine WP.condFh rfl ((by simp)) ?_
        refine WP.skip <| WP.region <| v0 (S0.move rfl) rfl <| v0 (S0.ari rfl rfl rfl (wrap_i64 (by omega))) rfl <| v0 (S0.assign rfl) rfl <| vE <| ?_
        exact ⟨i + 1, (by first | exact ⟨hlt, by rw [List.take_add_one, List.take_add_one, hx, hy, htk]⟩ | (dsimp only; exact ⟨hlt, by rw [List.take_add_one, List.take_add_one, hx, hy, htk]⟩)), (show a.length - (i + 1) < a.length - i by omega), ⟨⟨rfl, rfl, rfl, trivial⟩, rfl, rfl⟩, ⟨_, (take1 at0 (take1 at0 take0))⟩⟩
      · refine WP.condTh rfl ((by simp [e])) ?_
        refine WP.seq <| WP.region <| v0 (S0.assign rfl) rfl <| vE <| WP.ret <| ?_
        refine r1 rfl rfl ⟨?_, rfl⟩
        have : a ≠ b := fun e2 => e (by subst e2; rw [hx] at hy; cases hy; rfl)
        simp [this]
    · refine WP.exit <| WP.seq <| WP.region <| v0 (S0.assign rfl) rfl <| vE <| WP.ret <| ?_
      refine r1 rfl rfl ⟨?_, rfl⟩
      have : a = b := by
        rw [List.take_of_length_le (by omega), List.take_of_length_le (by omega)] at htk
        exact htk
      simp [this]
end Go.Proofs.YtjpjebfodhbdfaaGreatDoor
namespace Go.Proofs.YtjpjebfodhbdfaaGreatDoor
open Go
theorem find_at {α : Type} {p : α → Bool} {l : List α} {k : Nat} {x : α} (hno : ∀ j y, j < k → l[j]? = some y → p y = false) (hx : l[k]? = some x) (hp : p x = true) : l.find? p = some x := by
  obtain ⟨hk, rfl⟩ := List.getElem?_eq_some_iff.1 hx
  rw [List.find?_eq_some_iff_getElem]
  exact ⟨hp, k, hk, rfl, fun j hj => by simpa using hno j _ hj (List.getElem?_eq_getElem (by omega))⟩
theorem find_no {α : Type} {p : α → Bool} {l : List α} (hno : ∀ (j : Nat) (y : α), l[j]? = some y → p y = false) : l.find? p = none := by
  rw [List.find?_eq_none]
  intro x hx
  obtain ⟨j, hj, rfl⟩ := List.getElem_of_mem hx
  simpa using hno j _ (List.getElem?_eq_getElem hj)
theorem xafter_spec {rk rl : Nat} {b : Ct} {cc : List Blk} (h : IsRCt rk rl b cc) (ho : CtW b) (p : Int) : FN Tryz.prog 23 [ptrB rk, .int .i64 p] [cc] (is (aftV b p) [cc]) := by
  obtain ⟨v1, row1, v2, row2, v3, row3, h1, h2, h3, rfl⟩ := h
  obtain ⟨a1, cap1, rfl, hcap1, hrow1⟩ := IsSl.elems (k := 4) evB_len h1
  obtain ⟨a2, cap2, rfl, hcap2, hrow2⟩ := h2.intsE
  have hl := ho.len
  have hL1 : (b.L.map (·.2)).length = b.L.length := List.length_map _
  have hL2 : (b.L.map fun x => (x.1 : Int)).length = b.L.length := List.length_map _
  refine FN.rest ?_
  refine FN.intro 41 [(0, ptrB rk), (1, .int .i64 p)] Tryz.func23 rfl (enters Tryz.func23 (by kernel_rfl) rfl) Tryz.ntmps23 rfl rfl ?_
  refine WP.perm (h' := [[rbB rk rl (.slice a1 (b.L.map (·.2)).length cap1) (.slice a2 (b.L.map fun x => (x.1 : Int)).length cap2) v3 (b.n : Int)], row1, row2, row3]) (k := []) (pm fun a_ => by (try simp only [List.flatten_append, List.flatten_cons, List.flatten_nil, List.append_nil, List.cons_append, List.nil_append, List.append_assoc, nOf_app, nOf_cons, nOf_nil, Nat.add_zero, Nat.zero_add, List.map_append, List.map_cons, List.map_nil, cel, sv]); first | done | omega) ?_
  refine WP.seq <| WP.region <| vn (S1.alloc) rfl fun b4 => v0 (S0.assign rfl) rfl <| v0 (S0.assign rfl) rfl <| vE <| WP.seq <| WP.seq <| WP.region <| v0 (S0.assign rfl) rfl <| vE <| WP.block <| ?_
  refine WP.loop (fun k : Nat => k ≤ b.L.length ∧ ∀ (j : Nat) (y : Nat × Ev), j < k → b.L[j]? = some y → decide (p < (y.1 : Int)) = false) (fun k : Nat => [(0, ptrB rk), (1, .int .i64 p), (4, .pointer (some ⟨b4, 0, none⟩)), (7, .int .i64 (k : Int))]) (fun k : Nat => [[rbB rk rl (.slice a1 (b.L.map (·.2)).length cap1) (.slice a2 (b.L.map fun x => (x.1 : Int)).length cap2) v3 (b.n : Int)], row1, row2, row3, [(b4, cel [.int .i64 0, .int .i64 0, .string ByteArray.empty, .string ByteArray.empty, .int .i64 0] 41)]]) (fun k : Nat => b.L.length - k) (0) (⟨Nat.zero_le _, fun j y hj => by omega⟩) ⟨rfl, rfl, rfl, rfl, trivial⟩ ⟨[], (pm fun a_ => by (try simp only [List.flatten_append, List.flatten_cons, List.flatten_nil, List.append_nil, List.cons_append, List.nil_append, List.append_assoc, nOf_app, nOf_cons, nOf_nil, Nat.add_zero, Nat.zero_add, List.map_append, List.map_cons, List.map_nil, cel, sv]); first | done | omega)⟩ (fun k hinv => ?_)
  obtain ⟨hk, hno⟩ := hinv
  refine WP.seq <| WP.seq <| WP.region <| v0 (S0.move rfl) rfl <| v0 (S0.move rfl) rfl <| v0 (S0.nilCheck rfl) rfl <| v0 (S0.fieldAddr rfl) rfl <| v0 (S0.load rfl rfl) rfl <| v0 (S0.lenSl rfl) rfl <| v0 (S0.cmp rfl rfl rfl) rfl <| vE <| ?_
  first | refine WP.condP rfl (fun q1 => ?_) (fun q1 => ?_) | refine WP.condN rfl (fun q1 => ?_) (fun q1 => ?_) | refine WP.cond rfl (fun q1 => ?_) (fun q1 => ?_)
  · have hlt : k < b.L.length := by omega
    rcases hrow1 with ⟨e, -⟩ | ⟨b1, sp1, rfl, rfl, hsp1⟩
    · have := congrArg List.length e; simp at this; rw [this] at hlt; simp at hlt
    rcases hrow2 with ⟨e, -⟩ | ⟨b2, sp2, rfl, rfl, hsp2⟩
    · have := congrArg List.length e; simp at this; rw [this] at hlt; simp at hlt
    have hx : b.L[k]? = some b.L[k] := by simp [hlt]
    generalize b.L[k] = x at hx
    have hx1 : (b.L.map (·.2))[k]? = some x.2 := by simp [hx]
    have hx2 : (b.L.map fun x => (x.1 : Int))[k]? = some (x.1 : Int) := by simp [hx]
    have gA := flat_take evB_len sp1 _ k x.2 hx1
    refine WP.skip <| WP.seq <| WP.block <| WP.seq <| WP.region <| v0 (S0.move rfl) rfl <| v0 (S0.nilCheck rfl) rfl <| v0 (S0.fieldAddr rfl) rfl <| v0 (S0.load rfl rfl) rfl <| v0 (S0.move rfl) rfl <| ?_
    refine v0 (S0.index1 rfl rfl (by omega)) rfl <| ?_
    refine v0 (S0.load rfl (ints_get hx2)) rfl <| ?_
    refine v0 (S0.move rfl) rfl <| v0 (S0.cmp rfl rfl rfl) rfl <| vE <| ?_
    first | refine WP.condP rfl (fun q2 => ?_) (fun q2 => ?_) | refine WP.condN rfl (fun q2 => ?_) (fun q2 => ?_) | refine WP.cond rfl (fun q2 => ?_) (fun q2 => ?_)
    · refine WP.seq <| WP.drawP [(0, none), (1, none), (2, none), (3, none), (4, none), (5, none), (6, none), (7, none), (8, none), (9, none), (10, none), (11, none), (12, none), (13, none), (14, none), (15, none), (16, none)] mixed (by kernel_rfl) (by kernel_rfl) (by kernel_rfl) (take1 at0 (take1 at0 (take1 at0 take0))) <| w0 rfl rfl rfl (S0.move rfl) rfl <| w0 rfl rfl rfl (S0.nilCheck rfl) rfl <| w0 rfl rfl rfl (S0.fieldAddr rfl) rfl <| w0 rfl rfl rfl (S0.load rfl rfl) rfl <| w0 rfl rfl rfl (S0.move rfl) rfl <| ?_
      refine w0 rfl rfl rfl (S0.indexN (k := 5) rfl rfl (by omega)) rfl <| ?_
      refine w0 rfl rfl rfl (S0.loadA rfl gA rfl) rfl <| ?_
      refine w0 rfl rfl rfl (S0.move rfl) rfl <| w0 rfl rfl rfl (S0.nilCheck rfl) rfl <| w0 rfl rfl rfl (S0.fieldAddr rfl) rfl <| w0 rfl rfl rfl (S0.load rfl rfl) rfl <| w0 rfl rfl rfl (S0.move rfl) rfl <| ?_
      refine w0 rfl rfl rfl (S0.index1 rfl rfl (by omega)) rfl <| ?_
      refine w0 rfl rfl rfl (S0.load rfl (ints_get hx2)) rfl <| ?_
      refine ws rfl rfl rfl rfl (S1.storeA rfl rfl rfl) <| w0 rfl rfl rfl (S0.assign rfl) rfl <| w0 rfl rfl rfl (S0.assign rfl) rfl <| wE <| WP.ret <| ?_
      exact rce rfl rfl (load_agg (vs := evB x.2) (n := 5) (U := 41) (fz := (0, 0)) (by simp) rfl) rfl rfl
        ⟨by unfold aftV afterK; rw [find_at (p := fun x : Nat × Ev => decide (p < (x.1 : Int))) hno hx (by simpa using q2)], [(b4, cel (evB x.2) 41)], (pm fun a_ => by (try simp only [List.flatten_append, List.flatten_cons, List.flatten_nil, List.append_nil, List.cons_append, List.nil_append, List.append_assoc, nOf_app, nOf_cons, nOf_nil, Nat.add_zero, Nat.zero_add, List.map_append, List.map_cons, List.map_nil, cel, sv, evB]); first | done | omega)⟩
    · refine WP.skip <| WP.region <| v0 (S0.move rfl) rfl <| v0 (S0.ari rfl rfl rfl (wrap_i64 (by omega))) rfl <| v0 (S0.assign rfl) rfl <| vE <| ?_
      exact ⟨k + 1, (by first | exact ⟨hlt, below_at (p := fun _ (y : Nat × Ev) => decide (p < (y.1 : Int)) = false) hno hx (by simpa using q2)⟩ | (dsimp only; exact ⟨hlt, below_at (p := fun _ (y : Nat × Ev) => decide (p < (y.1 : Int)) = false) hno hx (by simpa using q2)⟩)), (show b.L.length - (k + 1) < b.L.length - k by omega), ⟨⟨rfl, rfl, rfl, rfl, trivial⟩, rfl, rfl⟩, ⟨_, (take1 at0 (take1 at0 (take1 at0 (take1 at0 (take1 at0 take0)))))⟩⟩
  · refine WP.exit <| WP.seq <| WP.region <| v0 (S0.build rfl (qs := []) rfl) rfl <| vs (S1.storeA rfl rfl rfl) <| v0 (S0.assign rfl) rfl <| v0 (S0.assign rfl) rfl <| vE <| WP.ret <| ?_
    exact rce rfl rfl (load_agg (vs := [.int .i64 0, .int .i64 0, .string ByteArray.empty, .string ByteArray.empty, .int .i64 0]) (n := 5) (U := 41) (fz := (0, 0)) (by simp) rfl) rfl rfl
      ⟨by unfold aftV afterK; rw [find_no (p := fun x : Nat × Ev => decide (p < (x.1 : Int))) fun j y hy => hno j y (by have := (List.getElem?_eq_some_iff.1 hy).1; omega) hy]; rfl, [(b4, cel [.int .i64 0, .int .i64 0, .string ByteArray.empty, .string ByteArray.empty, .int .i64 0] 41)], (pm fun a_ => by (try simp only [List.flatten_append, List.flatten_cons, List.flatten_nil, List.append_nil, List.cons_append, List.nil_append, List.append_assoc, nOf_app, nOf_cons, nOf_nil, Nat.add_zero, Nat.zero_add, List.map_append, List.map_cons, List.map_nil, cel, sv]); first | done | omega)⟩
theorem xmissing_spec {rk rl : Nat} {b : Ct} {cc : List Blk} (h : IsRCt rk rl b cc) (ho : CtW b) {l : List MkT} {mv : Value} {mrow : List Blk} (hms : Rd 2 enM mv l mrow) (hll : l.length ≤ 1000000) : FN Tryz.prog 26 [ptrB rk, mv] [cc, mrow] (fun u h => ∃ row, IsSl 41 5 u (evsB (missK b l)) row ∧ h = [row, cc, mrow]) := by
  obtain ⟨v1, row1, v2, row2, v3, row3, h1, h2, h3, rfl⟩ := h
  obtain ⟨a1, cap1, rfl, hcap1, hrow1⟩ := IsSl.elems (k := 4) evB_len h1
  obtain ⟨ma, mcap, rfl, hmcap, hmrow⟩ := hms
  have hl := ho.len
  have hL1 : (b.L.map (·.2)).length = b.L.length := List.length_map _
  generalize hE : b.L.map (·.2) = E at h1 hcap1 hrow1 hL1
  refine FN.intro 65 [(0, ptrB rk), (1, .slice ma l.length mcap)] Tryz.func26 rfl (enters Tryz.func26 (by kernel_rfl) rfl) Tryz.ntmps26 rfl rfl ?_
  refine WP.perm (h' := [[rbB rk rl (.slice a1 E.length cap1) v2 v3 (b.n : Int)], row1, mrow, row2, row3]) (k := []) (pm fun a_ => by (try simp only [List.flatten_append, List.flatten_cons, List.flatten_nil, List.append_nil, List.cons_append, List.nil_append, List.append_assoc, nOf_app, nOf_cons, nOf_nil, Nat.add_zero, Nat.zero_add, List.map_append, List.map_cons, List.map_nil, cel, sv]); first | done | omega) ?_
  refine WP.seq <| WP.region <| v0 (S0.assign rfl) rfl <| vE <| WP.seq <| WP.region <| vnv (S1.buildSlice rfl (qs := []) rfl rfl) rfl fun b9 => v0 (S0.assign rfl) rfl <| vE <| WP.seq <| WP.seq <| WP.region <| v0 (S0.assign rfl) rfl <| vE <| WP.block <| ?_
  refine WP.loop (fun st : Nat × Value × List Blk => st.1 ≤ E.length ∧ IsSl 41 5 st.2.1 (evsB ((E.take st.1).filter fun e => decide (hadL l e.o < e.s))) st.2.2) (fun st : Nat × Value × List Blk => [(0, ptrB rk), (1, .slice ma l.length mcap), (5, st.2.1), (6, .int .i64 (st.1 : Int))]) (fun st : Nat × Value × List Blk => [st.2.2, [rbB rk rl (.slice a1 E.length cap1) v2 v3 (b.n : Int)], row1, mrow, row2, row3]) (fun st : Nat × Value × List Blk => E.length - st.1) ((0, .slice (some ⟨b9, 0, none⟩) 0 0, [(b9, .cells ⟨[]⟩ 41 (0, 0))])) (⟨Nat.zero_le _, IsSl.row (n := 0) (c := 0) (l := []) (sp := []) rfl rfl (Nat.le_refl _)⟩) ⟨rfl, rfl, rfl, rfl, trivial⟩ ⟨_, (take1 at0 (take1 at0 (take1 at0 (take1 at0 (take1 at0 (take1 at0 take0))))))⟩ (fun st hinv => ?_)
  obtain ⟨k, ov, orow⟩ := st
  obtain ⟨hk, hos⟩ := hinv
  dsimp only at hk hos ⊢
  refine WP.seq <| WP.seq <| WP.region <| v0 (S0.move rfl) rfl <| v0 (S0.move rfl) rfl <| v0 (S0.nilCheck rfl) rfl <| v0 (S0.fieldAddr rfl) rfl <| v0 (S0.load rfl rfl) rfl <| v0 (S0.lenSl rfl) rfl <| v0 (S0.cmp rfl rfl rfl) rfl <| vE <| ?_
  first | refine WP.condP rfl (fun q1 => ?_) (fun q1 => ?_) | refine WP.condN rfl (fun q1 => ?_) (fun q1 => ?_) | refine WP.cond rfl (fun q1 => ?_) (fun q1 => ?_)
  · have hlt : k < E.length := by omega
    rcases hrow1 with ⟨e, -⟩ | ⟨b1, sp1, rfl, rfl, hsp1⟩
    · rw [e] at hlt; simp at hlt
    have hx : E[k]? = some E[k] := by simp [hlt]
    generalize E[k] = x at hx
    have gA := flat_take evB_len sp1 _ k x hx
    have g0 : (E.flatMap evB ++ sp1)[k * 5 + 0]? = some (.int .i64 x.o) := flat_get evB_len sp1 E k 0 x hx (by decide)
    have g1 : (E.flatMap evB ++ sp1)[k * 5 + 1]? = some (.int .i64 x.s) := flat_get evB_len sp1 E k 1 x hx (by decide)
    have hfk : (E.take (k + 1)).filter (fun e => decide (hadL l e.o < e.s)) = (E.take k).filter (fun e => decide (hadL l e.o < e.s)) ++ (if hadL l x.o < x.s then [x] else []) := by
      rw [List.take_add_one, hx, List.filter_append]
      congr 1
      by_cases e : hadL l x.o < x.s <;> simp [e]
    have hfl := List.length_filter_le (fun e : Ev => decide (hadL l e.o < e.s)) (E.take k)
    have htl : (E.take k).length ≤ 64 := by rw [List.length_take]; omega
    refine WP.skip <| WP.seq <| WP.block <| WP.seq <| WP.region <| v0 (S0.assign rfl) rfl <| vE <| WP.seq <| WP.seq <| WP.region <| v0 (S0.assign rfl) rfl <| vE <| WP.block <| ?_
    refine WP.loop (fun j : Nat => j ≤ l.length) (fun j : Nat => [(0, ptrB rk), (1, .slice ma l.length mcap), (5, ov), (6, .int .i64 (k : Int)), (7, .int .i64 (hadL (l.take j) x.o)), (8, .int .i64 (j : Int))]) (fun j : Nat => [orow, [rbB rk rl (.slice (some ⟨b1, 0, none⟩) E.length cap1) v2 v3 (b.n : Int)], [(b1, .cells ⟨E.flatMap evB ++ sp1⟩ 41 (0, 0))], mrow, row2, row3]) (fun j : Nat => l.length - j) (0) (Nat.zero_le _) ⟨rfl, rfl, rfl, rfl, rfl, rfl, trivial⟩ ⟨_, (take1 at0 (take1 at0 (take1 at0 (take1 at0 (take1 at0 (take1 at0 take0))))))⟩ (fun j hinv => ?_)
    refine WP.seq <| WP.seq <| WP.region <| v0 (S0.move rfl) rfl <| v0 (S0.move rfl) rfl <| v0 (S0.lenSl rfl) rfl <| v0 (S0.cmp rfl rfl rfl) rfl <| vE <| ?_
    first | refine WP.condP rfl (fun q2 => ?_) (fun q2 => ?_) | refine WP.condN rfl (fun q2 => ?_) (fun q2 => ?_) | refine WP.cond rfl (fun q2 => ?_) (fun q2 => ?_)
    · have hjl : j < l.length := by omega
      rcases hmrow with rfl | ⟨b2, o2, GL, U2, fz2, rfl, hmem, hel⟩
      · simp at hjl
      have im : HasC mrow b2 (.cells ⟨GL⟩ U2 fz2) := ⟨hmem⟩
      have hz : l[j]? = some l[j] := by simp [hjl]
      generalize l[j] = z at hz
      have m0 : GL[o2 + j * 2 + 0]? = some (.int .i64 z.1) := rd_get (hel j z hz) (j := 0) (by decide)
      have m1 : GL[o2 + j * 2 + 1]? = some (.int .i64 z.2) := rd_get (hel j z hz) (j := 1) (by decide)
      have hhd : hadL (l.take (j + 1)) x.o = if x.o = z.1 then z.2 else hadL (l.take j) x.o := by rw [List.take_add_one, hz, Option.toList_some, hadL_snoc]
      refine WP.skip <| WP.seq <| WP.block <| WP.seq <| WP.drawP [(0, none), (1, none), (2, none), (3, none), (4, none), (5, none), (6, none), (7, none), (8, none), (9, none), (10, none), (11, none), (12, none), (13, none)] mixed (by kernel_rfl) (by kernel_rfl) (by kernel_rfl) (take1 (atS at0) (take1 (atS at0) (take1 (atS at0) take0))) <| w0 rfl rfl rfl (S0.move rfl) rfl <| w0 rfl rfl rfl (S0.move rfl) rfl <| ?_
      refine w0 rfl rfl rfl (S0.indexO (k := 2) rfl rfl hjl) rfl <| ?_
      refine w0 rfl rfl rfl (S0.fieldAddr rfl) rfl <| ?_
      refine w0 rfl rfl rfl (S0.load (v := .int .i64 z.1) rfl m0) rfl <| ?_
      refine w0 rfl rfl rfl (S0.move rfl) rfl <| w0 rfl rfl rfl (S0.nilCheck rfl) rfl <| w0 rfl rfl rfl (S0.fieldAddr rfl) rfl <| w0 rfl rfl rfl (S0.load rfl rfl) rfl <| w0 rfl rfl rfl (S0.move rfl) rfl <| ?_
      refine w0 rfl rfl rfl (S0.indexN (k := 5) rfl rfl hlt) rfl <| ?_
      refine w0 rfl rfl rfl (S0.fieldAddr rfl) rfl <| ?_
      refine w0 rfl rfl rfl (S0.load (v := .int .i64 x.o) rfl g0) rfl <| ?_
      refine w0 rfl rfl rfl (S0.cmp rfl rfl rfl) rfl <| wE <| ?_
      first | refine WP.condP rfl (fun q3 => ?_) (fun q3 => ?_) | refine WP.condN rfl (fun q3 => ?_) (fun q3 => ?_) | refine WP.cond rfl (fun q3 => ?_) (fun q3 => ?_)
      · rw [if_pos q3.symm] at hhd
        refine WP.region <| v0 (S0.move rfl) rfl <| v0 (S0.move rfl) rfl <| ?_
        refine v0 (S0.indexO (k := 2) rfl rfl hjl) rfl <| ?_
        refine v0 (S0.fieldAddr rfl) rfl <| ?_
        refine v0 (S0.load (v := .int .i64 z.2) rfl m1) rfl <| ?_
        refine v0 (S0.assign rfl) rfl <| vE <| WP.region <| v0 (S0.move rfl) rfl <| v0 (S0.ari rfl rfl rfl (wrap_i64 (by omega))) rfl <| v0 (S0.assign rfl) rfl <| vE <| ?_
        rw [← hhd]
        exact ⟨j + 1, (by first | exact hjl | (dsimp only; exact hjl)), (show l.length - (j + 1) < l.length - j by omega), ⟨⟨rfl, rfl, rfl, rfl, rfl, rfl, trivial⟩, rfl, rfl⟩, ⟨_, (take1 (atS (atS (atS at0))) (take1 at0 (take1 at0 (take1 at0 (take1 at0 (take1 at0 take0))))))⟩⟩
      · rw [if_neg (fun e => q3 e.symm)] at hhd
        refine WP.skip <| WP.region <| v0 (S0.move rfl) rfl <| v0 (S0.ari rfl rfl rfl (wrap_i64 (by omega))) rfl <| v0 (S0.assign rfl) rfl <| vE <| ?_
        rw [← hhd]
        exact ⟨j + 1, (by first | exact hjl | (dsimp only; exact hjl)), (show l.length - (j + 1) < l.length - j by omega), ⟨⟨rfl, rfl, rfl, rfl, rfl, rfl, trivial⟩, rfl, rfl⟩, ⟨_, (take1 (atS (atS (atS at0))) (take1 at0 (take1 at0 (take1 at0 (take1 at0 (take1 at0 take0))))))⟩⟩
    · have e : j = l.length := by omega
      rw [e, List.take_length]
      refine WP.exit <| WP.seq <| WP.region <| v0 (S0.move rfl) rfl <| v0 (S0.nilCheck rfl) rfl <| v0 (S0.fieldAddr rfl) rfl <| v0 (S0.load rfl rfl) rfl <| v0 (S0.move rfl) rfl <| ?_
      refine v0 (S0.indexN (k := 5) rfl rfl hlt) rfl <| ?_
      refine v0 (S0.fieldAddr rfl) rfl <| ?_
      refine v0 (S0.load (v := .int .i64 x.s) rfl g1) rfl <| ?_
      refine v0 (S0.move rfl) rfl <| v0 (S0.cmp rfl rfl rfl) rfl <| vE <| ?_
      first | refine WP.condP rfl (fun q3 => ?_) (fun q3 => ?_) | refine WP.condN rfl (fun q3 => ?_) (fun q3 => ?_) | refine WP.cond rfl (fun q3 => ?_) (fun q3 => ?_)
      · rw [if_pos q3] at hfk
        refine WP.region <| v0 (S0.move rfl) rfl <| v0 (S0.move rfl) rfl <| v0 (S0.nilCheck rfl) rfl <| v0 (S0.fieldAddr rfl) rfl <| v0 (S0.load rfl rfl) rfl <| v0 (S0.move rfl) rfl <| ?_
        refine v0 (S0.indexN (k := 5) rfl rfl hlt) rfl <| ?_
        refine v0 (S0.loadA rfl gA rfl) rfl <| ?_
        refine vnv (S1.buildSlice rfl (qs := [(0, _)]) rfl rfl) rfl fun b62 => ?_
        refine ve (S1.appendL rfl hos rfl rfl (atS at0) rfl rfl (by rw [evsB_len]; simp; omega)) rfl ?_
        rintro v4 _ ⟨row4, hs4, rfl⟩
        have hs5 : IsSl 41 5 v4 (evsB ((E.take (k + 1)).filter fun e => decide (hadL l e.o < e.s))) row4 := by
          rw [hfk, evsB_app]; exact hs4
        refine v0 (S0.assign rfl) rfl <| vE <| WP.region <| v0 (S0.move rfl) rfl <| v0 (S0.ari rfl rfl rfl (wrap_i64 (by omega))) rfl <| v0 (S0.assign rfl) rfl <| vE <| ?_
        exact ⟨(k + 1, v4, row4), (by first | exact ⟨hlt, hs5⟩ | (dsimp only; exact ⟨hlt, hs5⟩)), (show E.length - (k + 1) < E.length - k by omega), ⟨⟨rfl, rfl, rfl, rfl, trivial⟩, rfl, rfl⟩, ⟨_, (take1 at0 (take1 (atS at0) (take1 (atS at0) (take1 (atS at0) (take1 (atS at0) (take1 (atS at0) take0))))))⟩⟩
      · rw [if_neg q3, List.append_nil] at hfk
        refine WP.skip <| WP.region <| v0 (S0.move rfl) rfl <| v0 (S0.ari rfl rfl rfl (wrap_i64 (by omega))) rfl <| v0 (S0.assign rfl) rfl <| vE <| ?_
        exact ⟨(k + 1, ov, orow), (by first | exact ⟨hlt, by rw [hfk]; exact hos⟩ | (dsimp only; exact ⟨hlt, by rw [hfk]; exact hos⟩)), (show E.length - (k + 1) < E.length - k by omega), ⟨⟨rfl, rfl, rfl, rfl, trivial⟩, rfl, rfl⟩, ⟨_, (take1 at0 (take1 at0 (take1 at0 (take1 at0 (take1 at0 (take1 at0 take0))))))⟩⟩
  · have e : k = E.length := by omega
    rw [e, List.take_length] at hos
    have em : missK b l = E.filter fun e => decide (hadL l e.o < e.s) := by unfold missK; rw [hE]
    refine WP.exit <| WP.seq <| WP.region <| v0 (S0.move rfl) rfl <| v0 (S0.assign rfl) rfl <| vE <| WP.ret <| ?_
    refine Leaves.drop (h' := [orow, rbB rk rl (.slice a1 E.length cap1) v2 v3 (b.n : Int) :: (row1 ++ (row2 ++ row3)), mrow]) (k := []) (pm fun a_ => by (try simp only [List.flatten_append, List.flatten_cons, List.flatten_nil, List.append_nil, List.cons_append, List.nil_append, List.append_assoc, nOf_app, nOf_cons, nOf_nil, Nat.add_zero, Nat.zero_add, List.map_append, List.map_cons, List.map_nil, cel, sv]); first | done | omega) ?_
    refine r1 rfl rfl ?_
    exact ⟨orow, by rw [em]; exact hos, rfl⟩
theorem xnote_spec {rk rl rb : Nat} {b : Ct} {G : Lg} {D : Dk} {cc lc dc : List Blk} (hr : Rooms b G D) (hc : IsRCt rk rl b cc) (hl : IsRLog rl rb G lc) (hd : IsRDk rb D dc) (s : Str) : FN Tryz.prog 54 [ptrB rk, sv s] [cc, lc, dc]
    (fun _ h => ∃ lc' dc', IsRLog rl rb (noteK b G D s).1 lc' ∧ IsRDk rb (noteK b G D s).2 dc' ∧ h = [cc, lc', dc']) := by
  have hc0 := hc
  have hn := hr.n
  have hW := hr.W
  have hlr := hr.l
  have hl0 := hl
  obtain ⟨v1, row1, v2, row2, v3, row3, h1, h2, h3, rfl⟩ := hc
  generalize hC : row1 ++ (row2 ++ row3) = C at hc0
  obtain ⟨lv, lrow, hls, rfl⟩ := hl
  obtain ⟨la, lcap, rfl, hlcap, -⟩ := hls.strsE
  refine FN.intro 26 [(0, ptrB rk), (1, sv s)] Tryz.func54 rfl (enters Tryz.func54 (by kernel_rfl) rfl) Tryz.ntmps54 rfl rfl ?_
  refine WP.seq <| WP.seq <| WP.region <| v0 (S0.move rfl) rfl <| v0 (S0.nilCheck rfl) rfl <| v0 (S0.fieldAddr rfl) rfl <| v0 (S0.load rfl rfl) rfl <| v0 (S0.nilCheck rfl) rfl <| v0 (S0.fieldAddr rfl) rfl <| v0 (S0.load rfl rfl) rfl <| v0 (S0.lenSl rfl) rfl <| v0 (S0.cmp rfl rfl rfl) rfl <| vE <| ?_
  first | refine WP.condP rfl (fun q1 => ?_) (fun q1 => ?_) | refine WP.condN rfl (fun q1 => ?_) (fun q1 => ?_) | refine WP.cond rfl (fun q1 => ?_) (fun q1 => ?_)
  · have e : noteK b G D s = (appendLg (checkLg G D (bytesK b)).2.1 (checkLg G D (bytesK b)).2.2 s).2 := by unfold noteK; rw [if_pos (by omega)]
    have hcW := checkLg_W G D (bytesK b)
    refine WP.drawP [(0, none), (1, none), (2, none), (3, none), (4, none), (5, none), (6, none)] mixed (by kernel_rfl) (by kernel_rfl) (by kernel_rfl) (take1 at0 take0) <| w0 rfl rfl rfl (S0.move rfl) rfl <| w0 rfl rfl rfl (S0.nilCheck rfl) rfl <| w0 rfl rfl rfl (S0.fieldAddr rfl) rfl <| w0 rfl rfl rfl (S0.load rfl rfl) rfl <| w0 rfl rfl rfl (S0.move rfl) rfl <| ?_
    refine wcS rfl rfl rfl rfl (S1.callF rfl (xbytes_spec hc0 hr.w (by omega)) (take1 at0 take0)) rfl (take1 at0 take0) ?_
    refine wc rfl rfl rfl rfl (S1.callF rfl (xcheck_spec hl0 hr.lg hd (by omega) (bytesK b)) (take1 at0 (take1 at0 take0))) rfl ?_
    rintro _ _ ⟨lc2, dc2, hl2, hd2, rfl, rfl⟩
    refine wapp ?_
    refine wE <| WP.region <| v0 (S0.move rfl) rfl <| v0 (S0.nilCheck rfl) rfl <| v0 (S0.fieldAddr rfl) rfl <| v0 (S0.load rfl rfl) rfl <| v0 (S0.move rfl) rfl <| ?_
    refine vc (S1.callF rfl (xappend_spec hl2 (checkLg_ok hr.rd hr.l) hd2 (checkLg_DkG hr.k _).ok (by omega) s) (take1 (atS at0) (take1 (atS at0) take0))) rfl ?_
    rintro _ _ ⟨lc3, dc3, hl3, hd3, rfl, rfl⟩
    refine app ?_
    refine vE <| ?_
    refine Leaves.drop (take1 (atS (atS at0)) (take1 at0 (take1 at0 take0))) ?_
    refine r0 rfl ?_
    rw [e]; exact ⟨lc3, dc3, hl3, hd3, rfl⟩
  · have e : noteK b G D s = (appendLg G D s).2 := by unfold noteK; rw [if_neg (by omega)]
    refine WP.skip <| WP.region <| v0 (S0.move rfl) rfl <| v0 (S0.nilCheck rfl) rfl <| v0 (S0.fieldAddr rfl) rfl <| v0 (S0.load rfl rfl) rfl <| v0 (S0.move rfl) rfl <| ?_
    refine vc (S1.callF rfl (xappend_spec hl0 hr.lg hd hr.k.ok (by omega) s) (take1 (atS at0) (take1 (atS at0) take0))) rfl ?_
    rintro _ _ ⟨lc3, dc3, hl3, hd3, rfl, rfl⟩
    refine app ?_
    refine vE <| ?_
    refine Leaves.drop (take1 (atS (atS at0)) (take1 at0 (take1 at0 take0))) ?_
    refine r0 rfl ?_
    rw [e]; exact ⟨lc3, dc3, hl3, hd3, rfl⟩
theorem xput_spec {rk rl rb : Nat} {b : Ct} {G : Lg} {D : Dk} {cc lc dc : List Blk} (hr : Rooms b G D) (hc : IsRCt rk rl b cc) (hl : IsRLog rl rb G lc) (hd : IsRDk rb D dc) {e : Ev} (ht : e.t.length ≤ 900000) (hel : e.l.length ≤ 900000) : FN Tryz.prog 15 [ptrB rk, .agg ⟨evB e⟩] [cc, lc, dc]
    (fun u h => ∃ cc' lc' dc', u = .int .i64 (putBk b G D e).1 ∧ IsRCt rk rl (putBk b G D e).2.1 cc' ∧ IsRLog rl rb (putBk b G D e).2.2.1 lc' ∧ IsRDk rb (putBk b G D e).2.2.2 dc' ∧ h = [cc', lc', dc']) := by
  have hn := hr.n
  refine FN.intro 20 [(0, ptrB rk), (1, .agg ⟨evB e⟩)] Tryz.func15 rfl (enters Tryz.func15 (by kernel_rfl) rfl) Tryz.ntmps15 rfl rfl ?_
  refine WP.seq <| WP.region <| vn (S1.box rfl rfl) rfl fun b3 => v0 (S0.assign rfl) rfl <| vE <| WP.seq <| WP.region <| v0 (S0.move rfl) rfl <| v0 (S0.loadAL rfl) rfl <| ?_
  refine vcd (S1.callF rfl (xwhy_spec hc hr.w (e := e) ht) (take1 (atS at0) take0)) rfl ?_
  refine v0 (S0.assign rfl) rfl <| vE <| WP.seq <| WP.seq <| WP.region <| v0 (S0.move rfl) rfl <| v0 (S0.cmp rfl rfl rfl) rfl <| vE <| ?_
  first | refine WP.condP rfl (fun h1 => ?_) (fun h1 => ?_) | refine WP.condN rfl (fun h1 => ?_) (fun h1 => ?_) | refine WP.cond rfl (fun h1 => ?_) (fun h1 => ?_)
  · have ep : putBk b G D e = (whyK b e, b, G, D) := by unfold putBk; rw [if_pos h1]
    refine WP.seq <| WP.region <| v0 (S0.move rfl) rfl <| v0 (S0.assign rfl) rfl <| vE <| WP.ret <| ?_
    refine Leaves.drop (take1 at0 (take1 (atS at0) (take1 (atS at0) take0))) ?_
    refine r1 rfl rfl ?_
    rw [ep]; exact ⟨cc, lc, dc, rfl, hc, hl, hd, rfl⟩
  · have hw : whyK b e = 0 := by simpa using h1
    have ep : putBk b G D e = (0, addK b e, noteK b G D (putR e)) := by unfold putBk; rw [if_neg (by simpa using h1)]
    have hpe := putE_le (why_zero hw).1
    refine WP.skip <| WP.seq <| WP.region <| v0 (S0.move rfl) rfl <| v0 (S0.loadAL rfl) rfl <| ?_
    refine vcd (S1.callF rfl (reput_spec (e := e) ht hel) take0) rfl ?_
    refine v0 (S0.addS (a := [80]) rfl rfl (by simp; omega)) rfl <| ?_
    refine vc (S1.callF rfl (xnote_spec hr hc hl hd (putR e)) (take1 at0 (take1 (atS at0) (take1 (atS at0) take0)))) rfl ?_
    rintro _ _ ⟨lc2, dc2, hl2, hd2, rfl⟩
    refine app ?_
    refine vE <| WP.seq <| WP.region <| v0 (S0.move rfl) rfl <| v0 (S0.loadAL rfl) rfl <| ?_
    refine vc (S1.callF rfl (xadd_spec hc hr.w (by omega) e) (take1 at0 take0)) rfl ?_
    rintro _ _ ⟨cc2, hc2, rfl⟩
    refine app ?_
    refine vE <| WP.seq <| WP.region <| v0 (S0.assign rfl) rfl <| vE <| WP.ret <| ?_
    refine Leaves.drop (take1 at0 (take1 at0 (take1 at0 take0))) ?_
    refine r1 rfl rfl ?_
    rw [ep]; exact ⟨cc2, lc2, dc2, rfl, hc2, hl2, hd2, rfl⟩
theorem xtick_spec {rk rl rb : Nat} {b : Ct} {G : Lg} {D : Dk} {cc lc dc : List Blk} (hr : Rooms b G D) (hc : IsRCt rk rl b cc) (hl : IsRLog rl rb G lc) (hd : IsRDk rb D dc) (n : Int) : FN Tryz.prog 17 [ptrB rk, .int .i64 n] [cc, lc, dc]
    (fun u h => ∃ cc' lc' dc', u = .int .i64 (tickBk b G D n).1 ∧ IsRCt rk rl (tickBk b G D n).2.1 cc' ∧ IsRLog rl rb (tickBk b G D n).2.2.1 lc' ∧ IsRDk rb (tickBk b G D n).2.2.2 dc' ∧ h = [cc', lc', dc']) := by
  refine FN.intro 20 [(0, ptrB rk), (1, .int .i64 n)] Tryz.func17 rfl (enters Tryz.func17 (by kernel_rfl) rfl) Tryz.ntmps17 rfl rfl ?_
  refine WP.seq <| WP.region <| v0 (S0.assign rfl) rfl <| vE <| WP.seq <| WP.seq <| WP.region <| v0 (S0.move rfl) rfl <| v0 (S0.cmp rfl rfl rfl) rfl <| v0 (S0.move rfl) rfl <| ?_
  first | refine csP (t := 7) rfl (fun h1 => ?_) (fun h1 => ?_) | refine csN (t := 7) rfl (fun h1 => ?_) (fun h1 => ?_) | refine cs (t := 7) rfl (fun h1 => ?_) (fun h1 => ?_)
  · have ep : tickBk b G D n = (1, b, G, D) := by unfold tickBk; rw [if_pos (by omega)]
    refine gF rfl rfl <| gF rfl rfl <| v0 (S0.pickT rfl rfl) rfl <| vE <| WP.condT rfl <| WP.seq <| WP.region <| v0 (S0.assign rfl) rfl <| vE <| WP.ret <| ?_
    refine r1 rfl rfl ?_
    rw [ep]; exact ⟨cc, lc, dc, rfl, hc, hl, hd, rfl⟩
  · refine gT rfl <| v0 (S0.move rfl) rfl <| gT rfl <| v0 (S0.cmp rfl rfl rfl) rfl <| v0 (S0.pickF rfl rfl) rfl <| vE <| ?_
    first | refine WP.condP rfl (fun h2 => ?_) (fun h2 => ?_) | refine WP.condN rfl (fun h2 => ?_) (fun h2 => ?_) | refine WP.cond rfl (fun h2 => ?_) (fun h2 => ?_)
    · have ep : tickBk b G D n = (1, b, G, D) := by unfold tickBk; rw [if_pos (by omega)]
      refine WP.seq <| WP.region <| v0 (S0.assign rfl) rfl <| vE <| WP.ret <| ?_
      refine r1 rfl rfl ?_
      rw [ep]; exact ⟨cc, lc, dc, rfl, hc, hl, hd, rfl⟩
    · have ep : tickBk b G D n = (0, ageK b n, noteK b G D (tickR n)) := by unfold tickBk; rw [if_neg (by omega)]
      have hpn := putV_le n.toNat
      refine WP.skip <| WP.seq <| WP.region <| v0 (S0.move rfl) rfl <| v0 (S0.move rfl) rfl <| v0 (S0.convI rfl (wrap_u64 (by omega))) rfl <| ?_
      rw [show Value.int .u64 n = .int .u64 ((n.toNat : Nat) : Int) by rw [Int.toNat_of_nonneg (by omega)]]
      refine vcd (S1.callF rfl (rput_spec (n := n.toNat) (by omega)) take0) rfl ?_
      refine v0 (S0.addS (a := [84]) rfl rfl (by simp; omega)) rfl <| ?_
      refine vc (S1.callF rfl (xnote_spec hr hc hl hd (tickR n)) (take1 at0 (take1 at0 (take1 at0 take0)))) rfl ?_
      rintro _ _ ⟨lc2, dc2, hl2, hd2, rfl⟩
      refine app ?_
      refine vE <| WP.seq <| WP.region <| v0 (S0.move rfl) rfl <| v0 (S0.move rfl) rfl <| ?_
      refine vc (S1.callF rfl (xage_spec hc hr.w (n := n) (by omega)) (take1 at0 take0)) rfl ?_
      rintro _ _ ⟨cc2, hc2, rfl⟩
      refine app ?_
      refine vE <| WP.seq <| WP.region <| v0 (S0.assign rfl) rfl <| vE <| WP.ret <| ?_
      refine r1 rfl rfl ?_
      rw [ep]; exact ⟨cc2, lc2, dc2, rfl, hc2, hl2, hd2, rfl⟩
end Go.Proofs.YtjpjebfodhbdfaaGreatDoor
namespace Go.Proofs.YtjpjebfodhbdfaaGreatDoor
open Go
theorem numK_get {s : Str} {a n b : Nat} (h : numK s a = some (n, b)) : getV s a = ((n : Int), (b : Int), 0) := by
  unfold numK at h
  split at h
  · rename_i hc
    obtain ⟨m, k, hg, hn, hk, hak, -⟩ := getV_ok hc.1
    rw [hg] at h ⊢
    simp only [Int.toNat_natCast, Option.some.injEq, Prod.mk.injEq] at h
    rw [h.1, ← h.2]
  · cases h
theorem xread_spec {rk rl : Nat} {cc : List Blk} (h : IsRCt rk rl ct0 cc) {s : Str} (hs : s.length ≤ 900000) {B : Ct} (hB : readK s = some B) : FN Tryz.prog 43 [ptrB rk, sv s] [cc]
    (fun u h => ∃ cc', u = .bool true ∧ CtW B ∧ B.n ≤ 1099511627776 ∧ IsRCt rk rl B cc' ∧ h = [cc']) := by
  obtain ⟨v1, row1, v2, row2, v3, row3, h1, h2, h3, rfl⟩ := h
  obtain ⟨va1, cap1, rfl, -, -⟩ := IsSl.elems (k := 4) evB_len h1
  obtain ⟨va2, cap2, rfl, -, -⟩ := h2.intsE
  obtain ⟨va3, cap3, rfl, -, -⟩ := IsSl.elems (k := 1) enM_len h3
  obtain ⟨n, a1, many, a3, hn, hb0, hn2, hm64, hrd0, hBM, hBn⟩ := read_parts hB
  obtain ⟨ha1, hnm⟩ := numK_le hn
  obtain ⟨hp, hsort, hp3⟩ := cutM_le ha1 hb0
  obtain ⟨ha3, -⟩ := numK_le hn2
  obtain ⟨hris, hmb, hlM⟩ := sortedM_iff.1 hsort
  have g1 := numK_get hn
  have g2 := numK_get hn2
  have hgs := rget_spec (s := s) (a := 0) (by omega) (by omega)
  rw [g1] at hgs
  have hcs := rmcut_spec (s := s) (a := a1) (by omega) ha1
  rw [hb0, hp3] at hcs
  have hgs2 := rget_spec (s := s) (a := (cutM s a1).2.1.toNat) (by omega) (by omega)
  rw [g2] at hgs2
  generalize (cutM s a1).1 = M at hsort hrd0 hBM hris hmb hlM hcs
  generalize (cutM s a1).2.1.toNat = a2 at hp hp3 hn2 g2 hcs hgs2
  refine FN.intro 154 [(0, ptrB rk), (1, sv s)] Tryz.func43 rfl (enters Tryz.func43 (by kernel_rfl) rfl) Tryz.ntmps43 rfl rfl ?_
  refine WP.perm (h' := [[rbB rk rl (.slice va1 (ct0.L.map (·.2)).length cap1) (.slice va2 (ct0.L.map fun x => (x.1 : Int)).length cap2) (.slice va3 ct0.M.length cap3) ((0 : Nat) : Int)], row1, row2, row3]) (k := []) (pm fun a_ => by (try simp only [List.flatten_append, List.flatten_cons, List.flatten_nil, List.append_nil, List.cons_append, List.nil_append, List.append_assoc, nOf_app, nOf_cons, nOf_nil, Nat.add_zero, Nat.zero_add, List.map_append, List.map_cons, List.map_nil, cel, sv]); first | done | omega) ?_
  refine WP.seq <| WP.region <| v0 (S0.assign rfl) rfl <| vE <| WP.seq <| WP.region <| v0 (S0.move rfl) rfl <| ?_
  refine vcd (S1.callF rfl (hgs) take0) rfl ?_
  refine v0 (S0.move rfl) rfl <| v0 (S0.extract rfl rfl) rfl <| v0 (S0.extract rfl rfl) rfl <| v0 (S0.extract rfl rfl) rfl <| v0 (S0.assign rfl) rfl <| v0 (S0.assign rfl) rfl <| v0 (S0.assign rfl) rfl <| vE <| WP.seq <| WP.seq <| WP.region <| v0 (S0.move rfl) rfl <| v0 (S0.cmp rfl rfl rfl) rfl <| v0 (S0.move rfl) rfl <| ?_
  refine csFh (t := 29) rfl ((by simp)) ?_
  refine gT rfl <| v0 (S0.move rfl) rfl <| gT rfl <| v0 (S0.cmp rfl rfl rfl) rfl <| v0 (S0.pickF rfl rfl) rfl <| vE <| ?_
  refine WP.condFh rfl ((by simp; omega)) ?_
  refine WP.skip <| WP.seq <| WP.region <| v0 (S0.move rfl) rfl <| v0 (S0.move rfl) rfl <| v0 (S0.convI rfl (wrap_i64 (by omega))) rfl <| v0 (S0.nilCheck rfl) rfl <| v0 (S0.fieldAddr rfl) rfl <| vs (S1.store rfl rfl (by first | rfl | exact IsSl.cv (by assumption))) <| vE <| WP.seq <| WP.region <| v0 (S0.move rfl) rfl <| v0 (S0.move rfl) rfl <| ?_
  refine vc (S1.callF rfl (hcs) take0) rfl ?_
  rintro _ _ ⟨mv, mrow, rfl, hsM, rfl⟩
  refine app ?_
  obtain ⟨ma, mcap, rfl, hmcap, -⟩ := IsSl.elems (k := 1) enM_len hsM
  refine v0 (S0.move rfl) rfl <| v0 (S0.extract rfl rfl) rfl <| v0 (S0.extract rfl rfl) rfl <| v0 (S0.extract rfl rfl) rfl <| v0 (S0.assign rfl) rfl <| v0 (S0.assign rfl) rfl <| v0 (S0.assign rfl) rfl <| vE <| WP.seq <| WP.seq <| WP.region <| v0 (S0.move rfl) rfl <| v0 (S0.cmp rfl rfl rfl) rfl <| vE <| ?_
  refine WP.condFh rfl ((by simp)) ?_
  refine WP.skip <| WP.seq <| WP.region <| v0 (S0.move rfl) rfl <| v0 (S0.move rfl) rfl <| v0 (S0.nilCheck rfl) rfl <| v0 (S0.fieldAddr rfl) rfl <| vs (S1.store rfl rfl (by first | rfl | exact IsSl.cv (by assumption))) <| vE <| WP.seq <| WP.region <| v0 (S0.move rfl) rfl <| v0 (S0.move rfl) rfl <| ?_
  refine vcd (S1.callF rfl (hgs2) take0) rfl ?_
  refine v0 (S0.move rfl) rfl <| v0 (S0.extract rfl rfl) rfl <| v0 (S0.extract rfl rfl) rfl <| v0 (S0.extract rfl rfl) rfl <| v0 (S0.assign rfl) rfl <| v0 (S0.assign rfl) rfl <| v0 (S0.assign rfl) rfl <| vE <| WP.seq <| WP.seq <| WP.region <| v0 (S0.move rfl) rfl <| v0 (S0.cmp rfl rfl rfl) rfl <| v0 (S0.move rfl) rfl <| ?_
  refine csFh (t := 60) rfl ((by simp)) ?_
  refine gT rfl <| v0 (S0.move rfl) rfl <| gT rfl <| v0 (S0.cmp rfl rfl rfl) rfl <| v0 (S0.pickF rfl rfl) rfl <| vE <| ?_
  refine WP.condFh rfl ((by simp; omega)) ?_
  refine WP.skip <| WP.seq <| WP.seq <| WP.region <| v0 (S0.assign rfl) rfl <| vE <| WP.block <| ?_
  have hct : IsRCt rk rl ⟨[], M, n⟩ (rbB rk rl (.slice va1 (ct0.L.map (·.2)).length cap1) (.slice va2 (ct0.L.map fun x => (x.1 : Int)).length cap2) (.slice ma M.length mcap) (n : Int) :: (row1 ++ (row2 ++ mrow))) := ⟨_, row1, _, row2, _, mrow, h1, h2, hsM, rfl⟩
  refine WP.loop (fun st : Nat × List (Nat × Ev) × Nat × Nat × List Blk => st.1 ≤ many ∧ st.2.1.length = st.1 ∧ (∀ x ∈ st.2.1, rightE x.2 = true ∧ x.1 ≤ n) ∧ st.2.2.2.1 ≤ s.length ∧ some (B.L, s.length) = readL s M n (many - st.1) st.2.1 st.2.2.1 st.2.2.2.1 ∧ IsRCt rk rl ⟨st.2.1, M, n⟩ st.2.2.2.2 ∧ (∀ x, st.2.1[st.1 - 1]? = some x → st.2.2.1 = x.1)) (fun st : Nat × List (Nat × Ev) × Nat × Nat × List Blk => [(0, ptrB rk), (1, sv s), (5, .int .u64 (n : Int)), (11, .int .u64 (many : Int)), (12, .int .i64 (st.2.2.2.1 : Int)), (14, .int .i64 (st.1 : Int))]) (fun st : Nat × List (Nat × Ev) × Nat × Nat × List Blk => [st.2.2.2.2]) (fun st : Nat × List (Nat × Ev) × Nat × Nat × List Blk => many - st.1) ((0, [], 0, a3, _)) (⟨Nat.zero_le _, rfl, by simp, ha3, hrd0.symm, hct, by simp⟩) ⟨rfl, rfl, rfl, rfl, rfl, rfl, trivial⟩ ⟨[row3], (pm fun a_ => by (try simp only [List.flatten_append, List.flatten_cons, List.flatten_nil, List.append_nil, List.cons_append, List.nil_append, List.append_assoc, nOf_app, nOf_cons, nOf_nil, Nat.add_zero, Nat.zero_add, List.map_append, List.map_cons, List.map_nil, cel, sv, rbB]); first | done | omega)⟩ (fun st hinv => ?_)
  obtain ⟨j, L, last, at_, cc⟩ := st
  obtain ⟨hj, hL, hev, hat, hrd, hc, hlast⟩ := hinv
  dsimp only at hj hL hev hat hrd hc hlast ⊢
  refine WP.seq <| WP.seq <| WP.region <| v0 (S0.move rfl) rfl <| v0 (S0.move rfl) rfl <| v0 (S0.convI rfl (wrap_i64 (by omega))) rfl <| v0 (S0.cmp rfl rfl rfl) rfl <| vE <| ?_
  first | refine WP.condP rfl (fun q0 => ?_) (fun q0 => ?_) | refine WP.condN rfl (fun q0 => ?_) (fun q0 => ?_) | refine WP.cond rfl (fun q0 => ?_) (fun q0 => ?_)
  · have hlt : j < many := by omega
    rw [show many - j = (many - (j + 1)) + 1 by omega, readL] at hrd
    cases hn3 : numK s at_ with
    | none => rw [hn3] at hrd; cases hrd
    | some y =>
      obtain ⟨p, to⟩ := y
      obtain ⟨hto, hpm⟩ := numK_le hn3
      rw [hn3] at hrd
      dsimp only at hrd
      have hq : (getE s to).2.2 = 0 ∧ last < p ∧ p ≤ n ∧ 0 < (getE s to).1.e ∧ (getE s to).1.s ≤ (mkO M (getE s to).1.o).getD 0 := by
        split at hrd
        · assumption
        · cases hrd
      rw [if_pos hq] at hrd
      obtain ⟨q1, q2, q3, q4, q5⟩ := hq
      obtain ⟨r1, r2, r3⟩ := getE_ok hto q1
      have hev2 : ∀ x ∈ L ++ [(p, (getE s to).1)], rightE x.2 = true ∧ x.1 ≤ n := fun x hx => by
        rcases List.mem_append.1 hx with hx | hx
        · exact hev x hx
        · simp at hx; subst hx; exact ⟨r1, q3⟩
      have hspec := reget_spec (s := s) (a := to) hs hto
      rw [q1, r2] at hspec
      generalize (getE s to).2.1.toNat = en at hrd r3 hspec
      generalize (getE s to).1 = ev at hrd q4 q5 r1 hev2 hspec
      have hgs3 := rget_spec (s := s) (a := at_) (by omega) (by omega)
      rw [numK_get hn3] at hgs3
      have hcw : CtW ⟨L, M, n⟩ := ⟨hsort, by dsimp only; omega, hev⟩
      refine WP.skip <| WP.seq <| WP.block <| WP.seq <| WP.region <| v0 (S0.move rfl) rfl <| v0 (S0.move rfl) rfl <| ?_
      refine vcd (S1.callF rfl (hgs3) take0) rfl ?_
      refine v0 (S0.move rfl) rfl <| v0 (S0.extract rfl rfl) rfl <| v0 (S0.extract rfl rfl) rfl <| v0 (S0.extract rfl rfl) rfl <| v0 (S0.assign rfl) rfl <| v0 (S0.assign rfl) rfl <| v0 (S0.assign rfl) rfl <| vE <| WP.seq <| WP.seq <| WP.region <| v0 (S0.move rfl) rfl <| v0 (S0.cmp rfl rfl rfl) rfl <| v0 (S0.move rfl) rfl <| ?_
      refine csFh (t := 79) rfl ((by simp)) ?_
      refine gT rfl <| v0 (S0.move rfl) rfl <| gT rfl <| v0 (S0.move rfl) rfl <| gT rfl <| v0 (S0.cmp rfl rfl rfl) rfl <| v0 (S0.pickF rfl rfl) rfl <| v0 (S0.move rfl) rfl <| ?_
      refine csFh (t := 84) rfl ((by simp; omega)) ?_
      refine gT rfl <| v0 (S0.move rfl) rfl <| gT rfl <| v0 (S0.cmp rfl rfl rfl) rfl <| v0 (S0.pickF rfl rfl) rfl <| v0 (S0.move rfl) rfl <| ?_
      refine csFh (t := 88) rfl ((by simp; omega)) ?_
      refine gT rfl <| v0 (S0.move rfl) rfl <| gT rfl <| v0 (S0.cmp rfl rfl rfl) rfl <| gT rfl <| v0 (S0.move rfl) rfl <| ?_
      first | refine csP (t := 91) rfl (fun c0 => ?_) (fun c0 => ?_) | refine csN (t := 91) rfl (fun c0 => ?_) (fun c0 => ?_) | refine cs (t := 91) rfl (fun c0 => ?_) (fun c0 => ?_)
      · have hc0 := hc
        obtain ⟨w1, ro1, w2, ro2, w3, ro3, e1, e2, e3, hcc⟩ := hc0
        obtain ⟨x2, c2, rfl, hc2, hr2⟩ := e2.intsE
        have hjl : j - 1 < L.length := by omega
        have hz : L[j - 1]? = some L[j - 1] := by simp [hjl]
        have hlz := hlast _ hz
        generalize L[j - 1] = z at hz hlz
        have hz2 : (L.map fun x => (x.1 : Int))[j - 1]? = some (z.1 : Int) := by simp [hz]
        have hL2 : (L.map fun x => (x.1 : Int)).length = L.length := List.length_map _
        rcases hr2 with ⟨e, -⟩ | ⟨b2, sp2, rfl, rfl, hsp2⟩
        · have := congrArg List.length e; simp at this; rw [this] at hjl; simp at hjl
        have i1 : HasC cc rk (.cells ⟨[ptrB rl, w1, .slice (some ⟨b2, 0, none⟩) (L.map fun x => (x.1 : Int)).length c2, w3, .int .i64 (n : Int)]⟩ 50 (0, 0)) := ⟨by rw [hcc]; simp⟩
        have i2 : HasC cc b2 (.cells ⟨plcB L ++ sp2⟩ 3 (0, 0)) := ⟨by rw [hcc]; simp⟩
        refine gT rfl <| v0 (S0.move rfl) rfl <| gT rfl <| v0 (S0.convI rfl (wrap_i64 (by omega))) rfl <| gT rfl <| v0 (S0.move rfl) rfl <| gT rfl <| v0 (S0.nilCheck rfl) rfl <| gT rfl <| v0 (S0.fieldAddr rfl) rfl <| gT rfl <| v0 (S0.load rfl rfl) rfl <| gT rfl <| v0 (S0.move rfl) rfl <| gT rfl <| v0 (S0.ari rfl rfl rfl (wrap_i64 (by omega))) rfl <| ?_
        rw [show (j : Int) - 1 = ((j - 1 : Nat) : Int) by omega]
        refine gT rfl <| v0 (S0.index1 rfl rfl (by omega)) rfl <| ?_
        refine gT rfl <| v0 (S0.load rfl (ints_get hz2)) rfl <| ?_
        refine gT rfl <| v0 (S0.cmp rfl rfl rfl) rfl <| gT rfl <| v0 (S0.pickT rfl rfl) rfl <| v0 (S0.pickF rfl rfl) rfl <| vE <| ?_
        refine WP.condFh rfl ((by simp; omega)) ?_
        clear i1 i2 hcc
        refine WP.skip <| WP.seq <| WP.region <| v0 (S0.move rfl) rfl <| v0 (S0.move rfl) rfl <| ?_
        refine vcd (S1.callF rfl (hspec) take0) rfl ?_
        refine v0 (S0.move rfl) rfl <| v0 (S0.extract rfl rfl) rfl <| v0 (S0.extract rfl rfl) rfl <| v0 (S0.extract rfl rfl) rfl <| vn (S1.alloc) rfl fun b18 => vs (S1.storeA rfl rfl rfl) <| v0 (S0.assign rfl) rfl <| v0 (S0.assign rfl) rfl <| vE <| WP.seq <| WP.seq <| WP.drawP [(0, none), (1, none), (2, none), (3, none), (4, none), (5, none), (6, none), (7, none), (8, none), (9, none), (10, none), (11, none), (12, none), (13, none), (14, none), (15, none)] mixed (by kernel_rfl) (by kernel_rfl) (by kernel_rfl) (take1 at0 (take1 at0 take0)) <| w0 rfl rfl rfl (S0.move rfl) rfl <| w0 rfl rfl rfl (S0.cmp rfl rfl rfl) rfl <| w0 rfl rfl rfl (S0.move rfl) rfl <| ?_
        refine wcsFh (t := 114) rfl ((by simp)) ?_
        refine w0 rfl rfl rfl (S0.fieldAddr rfl) rfl <| w0 rfl rfl rfl (S0.load rfl rfl) rfl <| w0 rfl rfl rfl (S0.cmp rfl rfl rfl) rfl <| w0 rfl rfl rfl (S0.pickF rfl rfl) rfl <| w0 rfl rfl rfl (S0.move rfl) rfl <| ?_
        refine wcsFh (t := 119) rfl ((by simp; omega)) ?_
        refine w0 rfl rfl rfl (S0.fieldAddr rfl) rfl <| w0 rfl rfl rfl (S0.load rfl rfl) rfl <| w0 rfl rfl rfl (S0.move rfl) rfl <| w0 rfl rfl rfl (S0.fieldAddr rfl) rfl <| w0 rfl rfl rfl (S0.load rfl rfl) rfl <| ?_
        refine wcS rfl rfl rfl rfl (S1.callF rfl (xseq_spec hc hcw ev.o) (take1 (atS at0) take0)) rfl (take1 (atS at0) (take1 at0 take0)) ?_
        refine w0 rfl rfl rfl (S0.cmp rfl rfl rfl) rfl <| w0 rfl rfl rfl (S0.pickF rfl rfl) rfl <| wE <| ?_
        have q5' : ev.s ≤ seqK ⟨L, M, n⟩ ev.o := q5
        refine WP.condFh rfl ((by simp; omega)) ?_
        obtain ⟨w1, ro1, w2, ro2, w3, ro3, e1, e2, e3, rfl⟩ := hc
        obtain ⟨x1, c1, rfl, -, -⟩ := IsSl.elems (k := 4) evB_len e1
        obtain ⟨x2, c2, rfl, -, -⟩ := e2.intsE
        obtain ⟨x3, c3, rfl, -, -⟩ := IsSl.elems (k := 1) enM_len e3
        refine WP.perm (h' := [[(b18, .cells ⟨evB ev⟩ 41 (0, 0))], [rbB rk rl (.slice x1 (L.map (·.2)).length c1) (.slice x2 (L.map fun x => (x.1 : Int)).length c2) (.slice x3 M.length c3) (n : Int)], ro1, ro2, ro3]) (k := []) (pm fun a_ => by (try simp only [List.flatten_append, List.flatten_cons, List.flatten_nil, List.append_nil, List.cons_append, List.nil_append, List.append_assoc, nOf_app, nOf_cons, nOf_nil, Nat.add_zero, Nat.zero_add, List.map_append, List.map_cons, List.map_nil, cel, sv]); first | done | omega) ?_
        refine WP.skip <| WP.seq <| WP.drawP [(0, none), (1, none), (2, none), (3, none), (4, none), (5, none), (6, none), (7, none), (8, none), (9, none), (10, none)] mixed (by kernel_rfl) (by kernel_rfl) (by kernel_rfl) (take1 at0 (take1 at0 take0)) <| w0 rfl rfl rfl (S0.move rfl) rfl <| w0 rfl rfl rfl (S0.move rfl) rfl <| w0 rfl rfl rfl (S0.nilCheck rfl) rfl <| w0 rfl rfl rfl (S0.fieldAddr rfl) rfl <| w0 rfl rfl rfl (S0.load rfl rfl) rfl <| w0 rfl rfl rfl (S0.loadAL rfl) rfl <| wnv rfl rfl rfl rfl (S1.buildSlice rfl (qs := [(0, _)]) rfl rfl) rfl fun b134 => ?_
        refine we rfl rfl rfl rfl (S1.appendL rfl e1 rfl rfl (atS at0) rfl rfl (by rw [evsB_len, List.length_map]; simp; omega)) rfl ?_
        rintro u1 _ ⟨ro1', e1', rfl⟩
        have e1s : IsSl 41 5 u1 (evsB ((L ++ [(p, ev)]).map (·.2))) ro1' := by
          rw [List.map_append, evsB_app]; exact e1'
        obtain ⟨x1', c1', rfl, -, -⟩ := IsSl.elems (k := 4) evB_len e1s
        refine w0 rfl rfl rfl (S0.nilCheck rfl) rfl <| w0 rfl rfl rfl (S0.fieldAddr rfl) rfl <| ?_
        refine wlast rfl (by kernel_rfl) rfl rfl (S1.store rfl rfl rfl) ?_
        refine WP.seq <| WP.region <| v0 (S0.move rfl) rfl <| v0 (S0.move rfl) rfl <| v0 (S0.nilCheck rfl) rfl <| v0 (S0.fieldAddr rfl) rfl <| v0 (S0.load rfl rfl) rfl <| v0 (S0.move rfl) rfl <| v0 (S0.convI rfl (wrap_i64 (by omega))) rfl <| vnv (S1.buildSlice rfl (qs := [(0, _)]) rfl rfl) rfl fun b145 => ?_
        refine ve (S1.appendL rfl e2 rfl rfl (atS (atS (atS (atS (atS at0))))) rfl rfl (by rw [ints_len, List.length_map]; simp; omega)) rfl ?_
        rintro u2 _ ⟨ro2', e2', rfl⟩
        have e2s : IsSl 3 1 u2 (plcB (L ++ [(p, ev)])) ro2' := by
          rw [plcB_app]; exact e2'
        obtain ⟨x2', c2', rfl, -, -⟩ := e2s.intsE
        refine v0 (S0.nilCheck rfl) rfl <| v0 (S0.fieldAddr rfl) rfl <| vs (S1.store rfl rfl (by first | rfl | exact IsSl.cv (by assumption))) <| vE <| WP.region <| v0 (S0.move rfl) rfl <| v0 (S0.assign rfl) rfl <| vE <| WP.region <| v0 (S0.move rfl) rfl <| v0 (S0.ari rfl rfl rfl (wrap_i64 (by omega))) rfl <| v0 (S0.assign rfl) rfl <| vE <| ?_
        have hc' : IsRCt rk rl ⟨L ++ [(p, ev)], M, n⟩ (rbB rk rl (.slice x1' ((L ++ [(p, ev)]).map (·.2)).length c1') (.slice x2' ((L ++ [(p, ev)]).map fun x => (x.1 : Int)).length c2') (.slice x3 M.length c3) (n : Int) :: (ro1' ++ (ro2' ++ ro3))) := ⟨_, ro1', _, ro2', _, ro3, e1s, e2s, e3, rfl⟩
        exact ⟨(j + 1, L ++ [(p, ev)], p, en, rbB rk rl (.slice x1' ((L ++ [(p, ev)]).map (·.2)).length c1') (.slice x2' ((L ++ [(p, ev)]).map fun x => (x.1 : Int)).length c2') (.slice x3 M.length c3) (n : Int) :: (ro1' ++ (ro2' ++ ro3))), (by first | exact ⟨hlt, by simp; omega, hev2, r3, hrd, hc', fun x hx => by rw [Nat.add_sub_cancel, ← hL] at hx; simp at hx; rw [← hx]⟩ | (dsimp only; exact ⟨hlt, by simp; omega, hev2, r3, hrd, hc', fun x hx => by rw [Nat.add_sub_cancel, ← hL] at hx; simp at hx; rw [← hx]⟩)), (show many - (j + 1) < many - j by omega), ⟨⟨rfl, rfl, rfl, rfl, rfl, rfl, trivial⟩, rfl, rfl⟩, ⟨[[(b18, .cells ⟨evB ev⟩ 41 (0, 0))], [(b134, .cells ⟨evB ev⟩ 41 (0, 0))], [(b145, cel [.int .i64 (p : Int)] 3)]], (pm fun a_ => by (try simp only [List.flatten_append, List.flatten_cons, List.flatten_nil, List.append_nil, List.cons_append, List.nil_append, List.append_assoc, nOf_app, nOf_cons, nOf_nil, Nat.add_zero, Nat.zero_add, List.map_append, List.map_cons, List.map_nil, cel, sv, rbB, evB]); first | done | omega)⟩⟩
      · refine gF rfl rfl <| gF rfl rfl <| gF rfl rfl <| gF rfl rfl <| gF rfl rfl <| gF rfl rfl <| gF rfl rfl <| gF rfl rfl <| gF rfl rfl <| gF rfl rfl <| gF rfl rfl <| gT rfl <| v0 (S0.pickF rfl rfl) rfl <| v0 (S0.pickF rfl rfl) rfl <| vE <| WP.condF rfl <| WP.skip <| WP.seq <| WP.region <| v0 (S0.move rfl) rfl <| v0 (S0.move rfl) rfl <| ?_
        refine vcd (S1.callF rfl (hspec) take0) rfl ?_
        refine v0 (S0.move rfl) rfl <| v0 (S0.extract rfl rfl) rfl <| v0 (S0.extract rfl rfl) rfl <| v0 (S0.extract rfl rfl) rfl <| vn (S1.alloc) rfl fun b18 => vs (S1.storeA rfl rfl rfl) <| v0 (S0.assign rfl) rfl <| v0 (S0.assign rfl) rfl <| vE <| WP.seq <| WP.seq <| WP.drawP [(0, none), (1, none), (2, none), (3, none), (4, none), (5, none), (6, none), (7, none), (8, none), (9, none), (10, none), (11, none), (12, none), (13, none), (14, none), (15, none)] mixed (by kernel_rfl) (by kernel_rfl) (by kernel_rfl) (take1 at0 (take1 at0 take0)) <| w0 rfl rfl rfl (S0.move rfl) rfl <| w0 rfl rfl rfl (S0.cmp rfl rfl rfl) rfl <| w0 rfl rfl rfl (S0.move rfl) rfl <| ?_
        refine wcsFh (t := 114) rfl ((by simp)) ?_
        refine w0 rfl rfl rfl (S0.fieldAddr rfl) rfl <| w0 rfl rfl rfl (S0.load rfl rfl) rfl <| w0 rfl rfl rfl (S0.cmp rfl rfl rfl) rfl <| w0 rfl rfl rfl (S0.pickF rfl rfl) rfl <| w0 rfl rfl rfl (S0.move rfl) rfl <| ?_
        refine wcsFh (t := 119) rfl ((by simp; omega)) ?_
        refine w0 rfl rfl rfl (S0.fieldAddr rfl) rfl <| w0 rfl rfl rfl (S0.load rfl rfl) rfl <| w0 rfl rfl rfl (S0.move rfl) rfl <| w0 rfl rfl rfl (S0.fieldAddr rfl) rfl <| w0 rfl rfl rfl (S0.load rfl rfl) rfl <| ?_
        refine wcS rfl rfl rfl rfl (S1.callF rfl (xseq_spec hc hcw ev.o) (take1 (atS at0) take0)) rfl (take1 (atS at0) (take1 at0 take0)) ?_
        refine w0 rfl rfl rfl (S0.cmp rfl rfl rfl) rfl <| w0 rfl rfl rfl (S0.pickF rfl rfl) rfl <| wE <| ?_
        have q5' : ev.s ≤ seqK ⟨L, M, n⟩ ev.o := q5
        refine WP.condFh rfl ((by simp; omega)) ?_
        obtain ⟨w1, ro1, w2, ro2, w3, ro3, e1, e2, e3, rfl⟩ := hc
        obtain ⟨x1, c1, rfl, -, -⟩ := IsSl.elems (k := 4) evB_len e1
        obtain ⟨x2, c2, rfl, -, -⟩ := e2.intsE
        obtain ⟨x3, c3, rfl, -, -⟩ := IsSl.elems (k := 1) enM_len e3
        refine WP.perm (h' := [[(b18, .cells ⟨evB ev⟩ 41 (0, 0))], [rbB rk rl (.slice x1 (L.map (·.2)).length c1) (.slice x2 (L.map fun x => (x.1 : Int)).length c2) (.slice x3 M.length c3) (n : Int)], ro1, ro2, ro3]) (k := []) (pm fun a_ => by (try simp only [List.flatten_append, List.flatten_cons, List.flatten_nil, List.append_nil, List.cons_append, List.nil_append, List.append_assoc, nOf_app, nOf_cons, nOf_nil, Nat.add_zero, Nat.zero_add, List.map_append, List.map_cons, List.map_nil, cel, sv]); first | done | omega) ?_
        refine WP.skip <| WP.seq <| WP.drawP [(0, none), (1, none), (2, none), (3, none), (4, none), (5, none), (6, none), (7, none), (8, none), (9, none), (10, none)] mixed (by kernel_rfl) (by kernel_rfl) (by kernel_rfl) (take1 at0 (take1 at0 take0)) <| w0 rfl rfl rfl (S0.move rfl) rfl <| w0 rfl rfl rfl (S0.move rfl) rfl <| w0 rfl rfl rfl (S0.nilCheck rfl) rfl <| w0 rfl rfl rfl (S0.fieldAddr rfl) rfl <| w0 rfl rfl rfl (S0.load rfl rfl) rfl <| w0 rfl rfl rfl (S0.loadAL rfl) rfl <| wnv rfl rfl rfl rfl (S1.buildSlice rfl (qs := [(0, _)]) rfl rfl) rfl fun b134 => ?_
        refine we rfl rfl rfl rfl (S1.appendL rfl e1 rfl rfl (atS at0) rfl rfl (by rw [evsB_len, List.length_map]; simp; omega)) rfl ?_
        rintro u1 _ ⟨ro1', e1', rfl⟩
        have e1s : IsSl 41 5 u1 (evsB ((L ++ [(p, ev)]).map (·.2))) ro1' := by
          rw [List.map_append, evsB_app]; exact e1'
        obtain ⟨x1', c1', rfl, -, -⟩ := IsSl.elems (k := 4) evB_len e1s
        refine w0 rfl rfl rfl (S0.nilCheck rfl) rfl <| w0 rfl rfl rfl (S0.fieldAddr rfl) rfl <| ?_
        refine wlast rfl (by kernel_rfl) rfl rfl (S1.store rfl rfl rfl) ?_
        refine WP.seq <| WP.region <| v0 (S0.move rfl) rfl <| v0 (S0.move rfl) rfl <| v0 (S0.nilCheck rfl) rfl <| v0 (S0.fieldAddr rfl) rfl <| v0 (S0.load rfl rfl) rfl <| v0 (S0.move rfl) rfl <| v0 (S0.convI rfl (wrap_i64 (by omega))) rfl <| vnv (S1.buildSlice rfl (qs := [(0, _)]) rfl rfl) rfl fun b145 => ?_
        refine ve (S1.appendL rfl e2 rfl rfl (atS (atS (atS (atS (atS at0))))) rfl rfl (by rw [ints_len, List.length_map]; simp; omega)) rfl ?_
        rintro u2 _ ⟨ro2', e2', rfl⟩
        have e2s : IsSl 3 1 u2 (plcB (L ++ [(p, ev)])) ro2' := by
          rw [plcB_app]; exact e2'
        obtain ⟨x2', c2', rfl, -, -⟩ := e2s.intsE
        refine v0 (S0.nilCheck rfl) rfl <| v0 (S0.fieldAddr rfl) rfl <| vs (S1.store rfl rfl (by first | rfl | exact IsSl.cv (by assumption))) <| vE <| WP.region <| v0 (S0.move rfl) rfl <| v0 (S0.assign rfl) rfl <| vE <| WP.region <| v0 (S0.move rfl) rfl <| v0 (S0.ari rfl rfl rfl (wrap_i64 (by omega))) rfl <| v0 (S0.assign rfl) rfl <| vE <| ?_
        have hc' : IsRCt rk rl ⟨L ++ [(p, ev)], M, n⟩ (rbB rk rl (.slice x1' ((L ++ [(p, ev)]).map (·.2)).length c1') (.slice x2' ((L ++ [(p, ev)]).map fun x => (x.1 : Int)).length c2') (.slice x3 M.length c3) (n : Int) :: (ro1' ++ (ro2' ++ ro3))) := ⟨_, ro1', _, ro2', _, ro3, e1s, e2s, e3, rfl⟩
        exact ⟨(j + 1, L ++ [(p, ev)], p, en, rbB rk rl (.slice x1' ((L ++ [(p, ev)]).map (·.2)).length c1') (.slice x2' ((L ++ [(p, ev)]).map fun x => (x.1 : Int)).length c2') (.slice x3 M.length c3) (n : Int) :: (ro1' ++ (ro2' ++ ro3))), (by first | exact ⟨hlt, by simp; omega, hev2, r3, hrd, hc', fun x hx => by rw [Nat.add_sub_cancel, ← hL] at hx; simp at hx; rw [← hx]⟩ | (dsimp only; exact ⟨hlt, by simp; omega, hev2, r3, hrd, hc', fun x hx => by rw [Nat.add_sub_cancel, ← hL] at hx; simp at hx; rw [← hx]⟩)), (show many - (j + 1) < many - j by omega), ⟨⟨rfl, rfl, rfl, rfl, rfl, rfl, trivial⟩, rfl, rfl⟩, ⟨[[(b18, .cells ⟨evB ev⟩ 41 (0, 0))], [(b134, .cells ⟨evB ev⟩ 41 (0, 0))], [(b145, cel [.int .i64 (p : Int)] 3)]], (pm fun a_ => by (try simp only [List.flatten_append, List.flatten_cons, List.flatten_nil, List.append_nil, List.cons_append, List.nil_append, List.append_assoc, nOf_app, nOf_cons, nOf_nil, Nat.add_zero, Nat.zero_add, List.map_append, List.map_cons, List.map_nil, cel, sv, rbB, evB]); first | done | omega)⟩⟩
  · have hjm : j = many := by omega
    rw [hjm, Nat.sub_self, readL] at hrd
    simp only [Option.some.injEq, Prod.mk.injEq] at hrd
    obtain ⟨rfl, rfl⟩ := hrd
    refine WP.exit <| WP.seq <| WP.region <| v0 (S0.move rfl) rfl <| v0 (S0.move rfl) rfl <| v0 (S0.lenSt rfl) rfl <| v0 (S0.cmp rfl rfl rfl) rfl <| v0 (S0.assign rfl) rfl <| vE <| WP.ret <| ?_
    refine r1 rfl rfl ?_
    have hLB : B.L.length ≤ 64 := by omega
    obtain ⟨L, M', n'⟩ := B
    dsimp only at hBM hBn hev hc hLB ⊢
    subst hBM hBn
    exact ⟨cc, by simp, ⟨hsort, hLB, hev⟩, hnm, hc, rfl⟩
theorem xredo_spec {rk rl : Nat} {b : Ct} {cc : List Blk} (h : IsRCt rk rl b cc) (ho : CtW b) (hn : b.n ≤ 4000000000000) {s : Str} (hs : s.length ≤ 900000) : FN Tryz.prog 44 [ptrB rk, sv s] [cc]
    (fun u h => ∃ cc', ((redoK b s = none ∧ u = .bool false) ∨ ∃ b', redoK b s = some b' ∧ u = .bool true ∧ CtW b' ∧ b'.n ≤ b.n + 1 ∧ IsRCt rk rl b' cc') ∧ h = [cc']) := by
  refine FN.intro 70 [(0, ptrB rk), (1, sv s)] Tryz.func44 rfl (enters Tryz.func44 (by kernel_rfl) rfl) Tryz.ntmps44 rfl rfl ?_
  refine WP.seq <| WP.region <| v0 (S0.assign rfl) rfl <| vE <| WP.seq <| WP.seq <| WP.region <| v0 (S0.move rfl) rfl <| v0 (S0.cmpS rfl rfl rfl) rfl <| vE <| ?_
  first | refine WP.condP rfl (fun h0 => ?_) (fun h0 => ?_) | refine WP.condN rfl (fun h0 => ?_) (fun h0 => ?_) | refine WP.cond rfl (fun h0 => ?_) (fun h0 => ?_)
  · refine WP.seq <| WP.region <| v0 (S0.assign rfl) rfl <| vE <| WP.ret <| ?_
    refine r1 rfl rfl ?_
    exact ⟨cc, .inl ⟨by rw [h0]; rfl, rfl⟩, rfl⟩
  · cases s with
    | nil => exact absurd rfl h0
    | cons c s =>
      clear h0
      have er : redoK b (c :: s) = if c = 80 then (if (getE (c :: s) 1).2.2 = 0 ∧ (getE (c :: s) 1).2.1 = ((c :: s).length : Int) ∧ whyK b (getE (c :: s) 1).1 = 0 then some (addK b (getE (c :: s) 1).1) else none) else if c = 84 then (match numK (c :: s) 1 with | none => none | some (n, to) => if to = (c :: s).length ∧ 1 ≤ n ∧ n ≤ 1000 then some (ageK b (n : Int)) else none) else none := rfl
      have hc80 : ((c.toNat : Int) = 80) ↔ c = 80 := by
        constructor
        · intro e; apply UInt8.toNat_inj.1; show c.toNat = 80; omega
        · rintro rfl; rfl
      have hc84 : ((c.toNat : Int) = 84) ↔ c = 84 := by
        constructor
        · intro e; apply UInt8.toNat_inj.1; show c.toNat = 84; omega
        · rintro rfl; rfl
      have h1s : 1 ≤ (c :: s).length := by simp
      generalize hS : c :: s = S at er hs h1s
      have hx0 : S[0]? = some c := by rw [← hS]; rfl
      clear hS
      refine WP.skip <| WP.seq <| WP.seq <| WP.region <| v0 (S0.move rfl) rfl <| ?_
      refine v0 (S0.indexSt (i := 0) rfl rfl hx0) rfl <| ?_
      refine v0 (S0.cmp rfl rfl rfl) rfl <| vE <| ?_
      first | refine WP.condP rfl (fun h1 => ?_) (fun h1 => ?_) | refine WP.condN rfl (fun h1 => ?_) (fun h1 => ?_) | refine WP.cond rfl (fun h1 => ?_) (fun h1 => ?_)
      · have hc1 := hc84.1 h1
        rw [if_neg (fun q => by rw [hc1] at q; cases q), if_pos hc1] at er
        have hnk : numK S 1 = if (getV S 1).2.2 = 0 ∧ (getV S 1).1 ≤ 1099511627776 then some ((getV S 1).1.toNat, (getV S 1).2.1.toNat) else none := rfl
        refine WP.seq <| WP.region <| v0 (S0.move rfl) rfl <| ?_
        refine vcd (S1.callF rfl (rget_spec (s := S) (a := 1) (by omega) (by omega)) take0) rfl ?_
        refine v0 (S0.move rfl) rfl <| v0 (S0.extract rfl rfl) rfl <| v0 (S0.extract rfl rfl) rfl <| v0 (S0.extract rfl rfl) rfl <| v0 (S0.assign rfl) rfl <| v0 (S0.assign rfl) rfl <| v0 (S0.assign rfl) rfl <| vE <| WP.seq <| WP.seq <| WP.region <| v0 (S0.move rfl) rfl <| v0 (S0.cmp rfl rfl rfl) rfl <| v0 (S0.move rfl) rfl <| ?_
        first | refine csP (t := 24) rfl (fun h2 => ?_) (fun h2 => ?_) | refine csN (t := 24) rfl (fun h2 => ?_) (fun h2 => ?_) | refine cs (t := 24) rfl (fun h2 => ?_) (fun h2 => ?_)
        · refine gF rfl rfl <| gF rfl rfl <| gF rfl rfl <| gF rfl rfl <| v0 (S0.pickT rfl rfl) rfl <| v0 (S0.move rfl) rfl <| gF rfl rfl <| gF rfl rfl <| v0 (S0.pickT rfl rfl) rfl <| v0 (S0.move rfl) rfl <| gF rfl rfl <| gF rfl rfl <| v0 (S0.pickT rfl rfl) rfl <| vE <| WP.condT rfl <| WP.seq <| WP.region <| v0 (S0.assign rfl) rfl <| vE <| WP.ret <| ?_
          refine r1 rfl rfl ?_
          exact ⟨cc, .inl ⟨by rw [er, hnk, if_neg (fun q => h2 q.1)], rfl⟩, rfl⟩
        · have h2' : (getV S 1).2.2 = 0 := by simpa using h2
          obtain ⟨n, k, hg, hn2, hk, hak, -⟩ := getV_ok h2'
          have g1 : (getV S 1).1 = (n : Int) := by rw [hg]
          have g2 : (getV S 1).2.1 = ((1 + k : Nat) : Int) := by rw [hg]
          rw [g1, g2, Int.toNat_natCast, Int.toNat_natCast] at hnk
          rw [g1, g2]
          have er2 : ((n : Int) ≤ 1099511627776 → redoK b S = if 1 + k = S.length ∧ 1 ≤ n ∧ n ≤ 1000 then some (ageK b (n : Int)) else none) ∧ (¬ (n : Int) ≤ 1099511627776 → redoK b S = none) := by
            constructor
            · intro q; rw [er, hnk, if_pos ⟨h2', q⟩]
            · intro q; rw [er, hnk, if_neg (fun e => q e.2)]
          have hfail : ¬ (1 + k = S.length ∧ 1 ≤ n ∧ n ≤ 1000) → redoK b S = none := fun q => by
            by_cases e : (n : Int) ≤ 1099511627776
            · rw [er2.1 e, if_neg q]
            · exact er2.2 e
          refine gT rfl <| v0 (S0.move rfl) rfl <| gT rfl <| v0 (S0.move rfl) rfl <| gT rfl <| v0 (S0.lenSt rfl) rfl <| gT rfl <| v0 (S0.cmp rfl rfl rfl) rfl <| v0 (S0.pickF rfl rfl) rfl <| v0 (S0.move rfl) rfl <| ?_
          first | refine csP (t := 30) rfl (fun h3 => ?_) (fun h3 => ?_) | refine csN (t := 30) rfl (fun h3 => ?_) (fun h3 => ?_) | refine cs (t := 30) rfl (fun h3 => ?_) (fun h3 => ?_)
          · refine gF rfl rfl <| gF rfl rfl <| v0 (S0.pickT rfl rfl) rfl <| v0 (S0.move rfl) rfl <| gF rfl rfl <| gF rfl rfl <| v0 (S0.pickT rfl rfl) rfl <| vE <| WP.condT rfl <| WP.seq <| WP.region <| v0 (S0.assign rfl) rfl <| vE <| WP.ret <| ?_
            refine r1 rfl rfl ?_
            exact ⟨cc, .inl ⟨hfail (fun q => by omega), rfl⟩, rfl⟩
          · refine gT rfl <| v0 (S0.move rfl) rfl <| gT rfl <| v0 (S0.cmp rfl rfl rfl) rfl <| v0 (S0.pickF rfl rfl) rfl <| v0 (S0.move rfl) rfl <| ?_
            first | refine csP (t := 34) rfl (fun h4 => ?_) (fun h4 => ?_) | refine csN (t := 34) rfl (fun h4 => ?_) (fun h4 => ?_) | refine cs (t := 34) rfl (fun h4 => ?_) (fun h4 => ?_)
            · refine gF rfl rfl <| gF rfl rfl <| v0 (S0.pickT rfl rfl) rfl <| vE <| WP.condT rfl <| WP.seq <| WP.region <| v0 (S0.assign rfl) rfl <| vE <| WP.ret <| ?_
              refine r1 rfl rfl ?_
              exact ⟨cc, .inl ⟨hfail (fun q => by omega), rfl⟩, rfl⟩
            · refine gT rfl <| v0 (S0.move rfl) rfl <| gT rfl <| v0 (S0.cmp rfl rfl rfl) rfl <| v0 (S0.pickF rfl rfl) rfl <| vE <| ?_
              first | refine WP.condP rfl (fun h5 => ?_) (fun h5 => ?_) | refine WP.condN rfl (fun h5 => ?_) (fun h5 => ?_) | refine WP.cond rfl (fun h5 => ?_) (fun h5 => ?_)
              · refine WP.seq <| WP.region <| v0 (S0.assign rfl) rfl <| vE <| WP.ret <| ?_
                refine r1 rfl rfl ?_
                exact ⟨cc, .inl ⟨hfail (fun q => by omega), rfl⟩, rfl⟩
              · have hok : redoK b S = some (ageK b (n : Int)) := by rw [er2.1 (by omega), if_pos ⟨by omega, by omega, by omega⟩]
                refine WP.skip <| WP.seq <| WP.region <| v0 (S0.move rfl) rfl <| v0 (S0.move rfl) rfl <| v0 (S0.convI rfl (wrap_i64 (by omega))) rfl <| ?_
                refine vc (S1.callF rfl (xage_spec h ho (n := (n : Int)) (by omega)) (take1 at0 take0)) rfl ?_
                rintro _ _ ⟨cc2, hc2, rfl⟩
                refine app ?_
                refine vE <| WP.seq <| WP.region <| v0 (S0.assign rfl) rfl <| vE <| WP.ret <| ?_
                refine r1 rfl rfl ?_
                exact ⟨cc2, .inr ⟨_, hok, rfl, ho.age _, Nat.le_succ _, hc2⟩, rfl⟩
      · have hspec := reget_spec (s := S) (a := 1) hs h1s
        have hok := getE_ok (s := S) (a := 1) h1s
        generalize getE S 1 = G at er hspec hok
        obtain ⟨ev, en, ee⟩ := G
        dsimp only at er hspec hok
        rw [show (if c = 84 then (match numK S 1 with | none => none | some (n, to) => if to = S.length ∧ 1 ≤ n ∧ n ≤ 1000 then some (ageK b (n : Int)) else none) else none) = none from if_neg (fun q => h1 (hc84.2 q))] at er
        refine WP.skip <| WP.seq <| WP.region <| v0 (S0.move rfl) rfl <| ?_
        refine vcd (S1.callF rfl (hspec) take0) rfl ?_
        refine v0 (S0.move rfl) rfl <| v0 (S0.extract rfl rfl) rfl <| v0 (S0.extract rfl rfl) rfl <| v0 (S0.extract rfl rfl) rfl <| vn (S1.alloc) rfl fun b8 => vs (S1.storeA rfl rfl rfl) <| v0 (S0.assign rfl) rfl <| v0 (S0.assign rfl) rfl <| vE <| WP.seq <| WP.seq <| WP.region <| v0 (S0.move rfl) rfl <| ?_
        refine v0 (S0.indexSt (i := 0) rfl rfl hx0) rfl <| ?_
        refine v0 (S0.cmp rfl rfl rfl) rfl <| v0 (S0.move rfl) rfl <| ?_
        first | refine csP (t := 51) rfl (fun h2 => ?_) (fun h2 => ?_) | refine csN (t := 51) rfl (fun h2 => ?_) (fun h2 => ?_) | refine cs (t := 51) rfl (fun h2 => ?_) (fun h2 => ?_)
        · rw [if_neg (fun q => h2 (hc80.2 q))] at er
          refine gF rfl rfl <| gF rfl rfl <| v0 (S0.pickT rfl rfl) rfl <| v0 (S0.move rfl) rfl <| gF rfl rfl <| gF rfl rfl <| gF rfl rfl <| gF rfl rfl <| v0 (S0.pickT rfl rfl) rfl <| v0 (S0.move rfl) rfl <| gF rfl rfl <| gF rfl rfl <| gF rfl rfl <| gF rfl rfl <| v0 (S0.pickT rfl rfl) rfl <| vE <| WP.condT rfl <| WP.seq <| WP.region <| v0 (S0.assign rfl) rfl <| vE <| WP.ret <| ?_
          refine Leaves.drop (take1 (atS at0) take0) ?_
          refine r1 rfl rfl ?_
          exact ⟨cc, .inl ⟨er, rfl⟩, rfl⟩
        · rw [if_pos (hc80.1 (by simpa using h2))] at er
          refine gT rfl <| v0 (S0.move rfl) rfl <| gT rfl <| v0 (S0.cmp rfl rfl rfl) rfl <| v0 (S0.pickF rfl rfl) rfl <| v0 (S0.move rfl) rfl <| ?_
          first | refine csP (t := 55) rfl (fun h3 => ?_) (fun h3 => ?_) | refine csN (t := 55) rfl (fun h3 => ?_) (fun h3 => ?_) | refine cs (t := 55) rfl (fun h3 => ?_) (fun h3 => ?_)
          · rw [if_neg (fun q => h3 q.1)] at er
            refine gF rfl rfl <| gF rfl rfl <| gF rfl rfl <| gF rfl rfl <| v0 (S0.pickT rfl rfl) rfl <| v0 (S0.move rfl) rfl <| gF rfl rfl <| gF rfl rfl <| gF rfl rfl <| gF rfl rfl <| v0 (S0.pickT rfl rfl) rfl <| vE <| WP.condT rfl <| WP.seq <| WP.region <| v0 (S0.assign rfl) rfl <| vE <| WP.ret <| ?_
            refine Leaves.drop (take1 (atS at0) take0) ?_
            refine r1 rfl rfl ?_
            exact ⟨cc, .inl ⟨er, rfl⟩, rfl⟩
          · have h30 : ee = 0 := by simpa using h3
            obtain ⟨g1, g2, g3⟩ := hok h30
            obtain ⟨t1, t2⟩ := right_tl g1
            refine gT rfl <| v0 (S0.move rfl) rfl <| gT rfl <| v0 (S0.move rfl) rfl <| gT rfl <| v0 (S0.lenSt rfl) rfl <| gT rfl <| v0 (S0.cmp rfl rfl rfl) rfl <| v0 (S0.pickF rfl rfl) rfl <| v0 (S0.move rfl) rfl <| ?_
            first | refine csP (t := 61) rfl (fun h4 => ?_) (fun h4 => ?_) | refine csN (t := 61) rfl (fun h4 => ?_) (fun h4 => ?_) | refine cs (t := 61) rfl (fun h4 => ?_) (fun h4 => ?_)
            · rw [if_neg (fun q => h4 q.2.1)] at er
              refine gF rfl rfl <| gF rfl rfl <| gF rfl rfl <| gF rfl rfl <| v0 (S0.pickT rfl rfl) rfl <| vE <| WP.condT rfl <| WP.seq <| WP.region <| v0 (S0.assign rfl) rfl <| vE <| WP.ret <| ?_
              refine Leaves.drop (take1 (atS at0) take0) ?_
              refine r1 rfl rfl ?_
              exact ⟨cc, .inl ⟨er, rfl⟩, rfl⟩
            · refine gT rfl <| v0 (S0.move rfl) rfl <| gT rfl <| v0 (S0.loadAL rfl) rfl <| ?_
              refine gT rfl <| vcd (S1.callF rfl (xwhy_spec h ho (e := ev) (by omega)) (take1 (atS at0) take0)) rfl ?_
              refine gT rfl <| v0 (S0.cmp rfl rfl rfl) rfl <| v0 (S0.pickF rfl rfl) rfl <| vE <| ?_
              first | refine WP.condP rfl (fun h5 => ?_) (fun h5 => ?_) | refine WP.condN rfl (fun h5 => ?_) (fun h5 => ?_) | refine WP.cond rfl (fun h5 => ?_) (fun h5 => ?_)
              · rw [if_neg (fun q => h5 q.2.2)] at er
                refine WP.seq <| WP.region <| v0 (S0.assign rfl) rfl <| vE <| WP.ret <| ?_
                refine Leaves.drop (take1 at0 take0) ?_
                refine r1 rfl rfl ?_
                exact ⟨cc, .inl ⟨er, rfl⟩, rfl⟩
              · have hw : whyK b ev = 0 := by simpa using h5
                rw [if_pos ⟨h30, by simpa using h4, hw⟩] at er
                refine WP.skip <| WP.seq <| WP.region <| v0 (S0.move rfl) rfl <| v0 (S0.loadAL rfl) rfl <| ?_
                refine vc (S1.callF rfl (xadd_spec h ho hn ev) (take1 at0 take0)) rfl ?_
                rintro _ _ ⟨cc2, hc2, rfl⟩
                refine app ?_
                refine vE <| WP.seq <| WP.region <| v0 (S0.assign rfl) rfl <| vE <| WP.ret <| ?_
                refine Leaves.drop (take1 at0 take0) ?_
                refine r1 rfl rfl ?_
                exact ⟨cc2, .inr ⟨_, er, rfl, ho.add hw, Nat.le_refl _, hc2⟩, rfl⟩
end Go.Proofs.YtjpjebfodhbdfaaGreatDoor
namespace Go.Proofs.YtjpjebfodhbdfaaGreatDoor
open Go
def OpenQ (rb : Nat) (D : Dk) (u : Value) (h : Hp) : Prop :=
  ((openBk D).1 ≠ 0 ∧ u = .tuple ⟨[.pointer none, .int .i64 (openBk D).1]⟩ ∧ ∃ dc', IsRDk rb (openBk D).2.2 dc' ∧ h = [dc']) ∨
  ((openBk D).1 = 0 ∧ ∃ b G rk rl cc lc dc', (openBk D).2.1 = some (b, G) ∧ CtW b ∧ b.n ≤ 2000000000000 ∧ LgOk G ∧ IsRCt rk rl b cc ∧ IsRLog rl rb G lc ∧ IsRDk rb (openBk D).2.2 dc' ∧ u = .tuple ⟨[ptrB rk, .int .i64 0]⟩ ∧ h = [cc, lc, dc'])
theorem xopen2_spec {rb : Nat} {D : Dk} {dc : List Blk} (hd : IsRDk rb D dc) (hk : DkG D) (hW : D.W.length ≤ 900000) : FN Tryz.prog 42 [ptrB rb] [dc] (fun u h => ∃ lv lc dc', u = .tuple ⟨[lv, .int .i64 (openLg D).1]⟩ ∧ (((openLg D).1 ≠ 0 ∧ lv = .pointer none ∧ dc' = dc) ∨ ((openLg D).1 = 0 ∧ ∃ lb, lv = ptrB lb ∧ IsRLog lb rb (openLg D).2.1 lc ∧ IsRDk rb (openLg D).2.2 dc')) ∧ h = [lc, dc']) :=
  (xopen_spec hd hk hW).lets fun u h q => by
    rcases q with ⟨e, rfl, rfl⟩ | ⟨e, lb, lc, dc', hl, hd', rfl, rfl⟩
    · exact ⟨[[], dc], [], ⟨_, [], dc, rfl, .inl ⟨e, rfl, rfl⟩, rfl⟩, by simp⟩
    · exact ⟨[lc, dc'], [], ⟨_, lc, dc', by rw [e], .inr ⟨e, lb, rfl, hl, hd'⟩, rfl⟩, by simp⟩
theorem xredo2_spec {rk rl : Nat} {b : Ct} {cc : List Blk} (h : IsRCt rk rl b cc) (ho : CtW b) (hn : b.n ≤ 4000000000000) {s : Str} (hs : s.length ≤ 900000) : FN Tryz.prog 44 [ptrB rk, sv s] [cc]
    (fun u h => ∃ w cc', u = .bool w ∧ (w = false → redoK b s = none) ∧ (w = true → ∃ b', redoK b s = some b' ∧ CtW b' ∧ b'.n ≤ b.n + 1 ∧ IsRCt rk rl b' cc') ∧ h = [cc']) :=
  (xredo_spec h ho hn hs).lets fun u h q => by
    obtain ⟨cc', hq, rfl⟩ := q
    rcases hq with ⟨e, rfl⟩ | ⟨b', e, rfl, h1, h2, h3⟩
    · exact ⟨[cc'], [], ⟨false, cc', rfl, fun _ => e, by simp, rfl⟩, by simp⟩
    · exact ⟨[cc'], [], ⟨true, cc', rfl, by simp, fun _ => ⟨b', e, h1, h2, h3⟩, rfl⟩, by simp⟩
theorem xbopen_spec {rb : Nat} {D : Dk} {dc : List Blk} (hd : IsRDk rb D dc) (hk : DkG D) (hW : D.W.length ≤ 900000) (hst : (openLg D).1 = 0 → (openLg D).2.1.st = [] ∨ ∃ B, readK (openLg D).2.1.st = some B) : FN Tryz.prog 12 [ptrB rb] [dc] (OpenQ rb D) := by
  obtain ⟨hlg, hstl, hll⟩ := openLg_ok hk
  refine FN.intro 53 [(0, ptrB rb)] Tryz.func12 rfl (enters Tryz.func12 (by kernel_rfl) rfl) Tryz.ntmps12 rfl rfl ?_
  refine WP.seq <| WP.region <| v0 (S0.assign rfl) rfl <| v0 (S0.assign rfl) rfl <| vE <| WP.seq <| WP.region <| v0 (S0.move rfl) rfl <| ?_
  refine vc (S1.callF rfl (xopen2_spec hd hk hW) (take1 at0 take0)) rfl ?_
  rintro _ _ ⟨lv, lc, dc2, rfl, hq, rfl⟩
  refine app ?_
  refine v0 (S0.move rfl) rfl <| v0 (S0.extract rfl rfl) rfl <| v0 (S0.extract rfl rfl) rfl <| v0 (S0.assign rfl) rfl <| v0 (S0.assign rfl) rfl <| vE <| WP.seq <| WP.seq <| WP.region <| v0 (S0.move rfl) rfl <| v0 (S0.cmp rfl rfl rfl) rfl <| vE <| ?_
  first | refine WP.condP rfl (fun h1 => ?_) (fun h1 => ?_) | refine WP.condN rfl (fun h1 => ?_) (fun h1 => ?_) | refine WP.cond rfl (fun h1 => ?_) (fun h1 => ?_)
  · have hbk : openBk D = ((openLg D).1, none, D) := by unfold openBk; rw [if_pos h1]
    rcases hq with ⟨-, rfl, rfl⟩ | ⟨he, -⟩
    · refine WP.seq <| WP.region <| v0 (S0.move rfl) rfl <| v0 (S0.assign rfl) rfl <| v0 (S0.assign rfl) rfl <| vE <| WP.ret <| ?_
      refine Leaves.drop (take1 (atS at0) take0) ?_
      refine r2 rfl rfl rfl ?_
      exact .inl ⟨by rw [hbk]; exact h1, by rw [hbk], dc2, by rw [hbk]; exact hd, rfl⟩
    · exact absurd he h1
  · have he : (openLg D).1 = 0 := by simpa using h1
    rcases hq with ⟨hne, -⟩ | ⟨-, lb, rfl, hl, hd2⟩
    · exact absurd he hne
    have hst2 := hst he
    have hbk : openBk D = match bookOf (openLg D).2.1.st (openLg D).2.1.l with | none => (4, none, (openLg D).2.2) | some b => (0, some (b, (openLg D).2.1), (openLg D).2.2) := by unfold openBk; rw [if_neg (by rw [he]; simp)]; cases bookOf (openLg D).2.1.st (openLg D).2.1.l <;> rfl
    rw [he]
    generalize (openLg D).2.1 = G at hl hst2 hlg hstl hll hbk
    generalize (openLg D).2.2 = D2 at hd2 hbk
    obtain ⟨lv, lrow, hls, rfl⟩ := hl
    obtain ⟨la, lcap, rfl, hlcap, hlrow⟩ := hls.strsE
    have hlr := hlg.l
    refine WP.skip <| WP.seq <| WP.region <| v0 (S0.move rfl) rfl <| v0 (S0.build rfl (qs := [(0, _)]) rfl) rfl <| vn (S1.box rfl rfl) rfl fun b18 => v0 (S0.assign rfl) rfl <| vE <| ?_
    refine WP.cutS (fun q : Ct × List Blk => (if G.st = [] then some ct0 else readK G.st) = some q.1 ∧ CtW q.1 ∧ q.1.n ≤ 1099511627776 ∧ IsRCt b18 lb q.1 q.2) (fun q : Ct × List Blk => [(4, ptrB lb), (6, ptrB b18)]) (fun q : Ct × List Blk => [q.2, rlB lb rb G.rd G.st (.slice la G.l.length lcap) G.sure :: lrow, dc2]) ?_ (fun q hinv => ?_)
    · have hct0 : IsRCt b18 lb ct0 [rbB b18 lb (.slice none 0 0) (.slice none 0 0) (.slice none 0 0) 0] := ⟨_, [], _, [], _, [], IsSl.nil, IsSl.nil, IsSl.nil, rfl⟩
      refine WP.seq <| WP.region <| v0 (S0.move rfl) rfl <| v0 (S0.nilCheck rfl) rfl <| v0 (S0.fieldAddr rfl) rfl <| v0 (S0.load rfl rfl) rfl <| v0 (S0.cmpS rfl rfl rfl) rfl <| v0 (S0.move rfl) rfl <| ?_
      first | refine csP (t := 24) rfl (fun h2 => ?_) (fun h2 => ?_) | refine csN (t := 24) rfl (fun h2 => ?_) (fun h2 => ?_) | refine cs (t := 24) rfl (fun h2 => ?_) (fun h2 => ?_)
      · obtain ⟨B, hB⟩ := hst2.resolve_left (by simpa using h2)
        refine gT rfl <| v0 (S0.move rfl) rfl <| gT rfl <| v0 (S0.move rfl) rfl <| gT rfl <| v0 (S0.nilCheck rfl) rfl <| gT rfl <| v0 (S0.fieldAddr rfl) rfl <| gT rfl <| v0 (S0.load rfl rfl) rfl <| ?_
        refine WO.perm (h' := [[rbB b18 lb (.slice none 0 0) (.slice none 0 0) (.slice none 0 0) 0], rlB lb rb G.rd G.st (.slice la G.l.length lcap) G.sure :: lrow, dc2]) (k := []) (pm fun a_ => by (try simp only [List.flatten_append, List.flatten_cons, List.flatten_nil, List.append_nil, List.cons_append, List.nil_append, List.append_assoc, nOf_app, nOf_cons, nOf_nil, Nat.add_zero, Nat.zero_add, List.map_append, List.map_cons, List.map_nil, cel, sv, rbB, ptrB, cel]); first | done | omega) ?_
        refine gT rfl <| vc (S1.callF rfl (xread_spec hct0 (s := G.st) (by omega) hB) (take1 at0 take0)) rfl ?_
        rintro _ _ ⟨cc2, rfl, hw, hn, hc, rfl⟩
        refine app ?_
        refine gT rfl <| v0 (S0.not rfl) rfl <| v0 (S0.pickT rfl rfl) rfl <| vE <| ?_
        refine WP.condFh rfl ((by simp)) ?_
        refine WP.skip <| ?_
        exact ⟨(B, cc2), (by first | exact ⟨by rw [if_neg (by simpa using h2), hB], hw, hn, hc⟩ | (dsimp only; exact ⟨by rw [if_neg (by simpa using h2), hB], hw, hn, hc⟩)), ⟨⟨rfl, rfl, trivial⟩, rfl, rfl⟩, ⟨_, (take1 at0 (take1 at0 (take1 at0 take0)))⟩⟩
      · refine gF rfl rfl <| gF rfl rfl <| gF rfl rfl <| gF rfl rfl <| gF rfl rfl <| gF rfl rfl <| gF rfl rfl <| v0 (S0.pickF rfl rfl) rfl <| vE <| WP.condF rfl <| WP.skip <| ?_
        exact ⟨(ct0, [rbB b18 lb (.slice none 0 0) (.slice none 0 0) (.slice none 0 0) 0]), (by first | exact ⟨by rw [if_pos (by simpa using h2)], CtOk.nil.w, by simp, hct0⟩ | (dsimp only; exact ⟨by rw [if_pos (by simpa using h2)], CtOk.nil.w, by simp, hct0⟩)), ⟨⟨rfl, rfl, trivial⟩, rfl, rfl⟩, ⟨[], (pm fun a_ => by (try simp only [List.flatten_append, List.flatten_cons, List.flatten_nil, List.append_nil, List.cons_append, List.nil_append, List.append_assoc, nOf_app, nOf_cons, nOf_nil, Nat.add_zero, Nat.zero_add, List.map_append, List.map_cons, List.map_nil, cel, sv, rbB, ptrB, cel]); first | done | omega)⟩⟩
    obtain ⟨B0, cc0⟩ := q
    obtain ⟨hB0, hw0, hn0, hc0⟩ := hinv
    dsimp only at hB0 hw0 hn0 hc0 ⊢
    have hbo : bookOf G.st G.l = redosK G.l B0 := by unfold bookOf; rw [hB0]
    refine WP.perm (h' := [cc0, [rlB lb rb G.rd G.st (.slice la G.l.length lcap) G.sure], lrow, dc2]) (k := []) (pm fun a_ => by (try simp only [List.flatten_append, List.flatten_cons, List.flatten_nil, List.append_nil, List.cons_append, List.nil_append, List.append_assoc, nOf_app, nOf_cons, nOf_nil, Nat.add_zero, Nat.zero_add, List.map_append, List.map_cons, List.map_nil, cel, sv]); first | done | omega) ?_
    refine WP.seq <| WP.seq <| WP.region <| v0 (S0.assign rfl) rfl <| vE <| WP.block <| ?_
    refine WP.loop (fun st : Nat × Ct × List Blk => st.1 ≤ G.l.length ∧ redosK G.l B0 = redosK (G.l.drop st.1) st.2.1 ∧ CtW st.2.1 ∧ st.2.1.n ≤ 1099511627776 + st.1 ∧ IsRCt b18 lb st.2.1 st.2.2) (fun st : Nat × Ct × List Blk => [(4, ptrB lb), (6, ptrB b18), (7, .int .i64 (st.1 : Int))]) (fun st : Nat × Ct × List Blk => [st.2.2, [rlB lb rb G.rd G.st (.slice la G.l.length lcap) G.sure], lrow, dc2]) (fun st : Nat × Ct × List Blk => G.l.length - st.1) ((0, B0, cc0)) (⟨Nat.zero_le _, rfl, hw0, hn0, hc0⟩) ⟨rfl, rfl, rfl, trivial⟩ ⟨_, (take1 at0 (take1 at0 (take1 at0 (take1 at0 take0))))⟩ (fun st hinv => ?_)
    obtain ⟨k, b, cc⟩ := st
    obtain ⟨hk, hrd, hw, hn, hc⟩ := hinv
    dsimp only at hk hrd hw hn hc ⊢
    refine WP.seq <| WP.seq <| WP.region <| v0 (S0.move rfl) rfl <| v0 (S0.move rfl) rfl <| v0 (S0.nilCheck rfl) rfl <| v0 (S0.fieldAddr rfl) rfl <| v0 (S0.load rfl rfl) rfl <| v0 (S0.lenSl rfl) rfl <| v0 (S0.cmp rfl rfl rfl) rfl <| vE <| ?_
    first | refine WP.condP rfl (fun h2 => ?_) (fun h2 => ?_) | refine WP.condN rfl (fun h2 => ?_) (fun h2 => ?_) | refine WP.cond rfl (fun h2 => ?_) (fun h2 => ?_)
    · have hlt : k < G.l.length := by omega
      have hx : G.l[k]? = some G.l[k] := by simp [hlt]
      have hxl := hll _ (List.getElem_mem hlt)
      have hdr : G.l.drop k = G.l[k] :: G.l.drop (k + 1) := List.drop_eq_getElem_cons hlt
      generalize G.l[k] = x at hx hxl hdr
      rw [hdr, redosK] at hrd
      rcases hlrow with ⟨e, -⟩ | ⟨b1, sp1, rfl, rfl, hsp1⟩
      · rw [e] at hlt; simp at hlt
      refine WP.skip <| WP.seq <| WP.block <| WP.seq <| WP.region <| v0 (S0.move rfl) rfl <| v0 (S0.move rfl) rfl <| v0 (S0.nilCheck rfl) rfl <| v0 (S0.fieldAddr rfl) rfl <| v0 (S0.load rfl rfl) rfl <| v0 (S0.move rfl) rfl <| ?_
      refine v0 (S0.index1 rfl rfl hlt) rfl <| ?_
      refine v0 (S0.load rfl (strs_get hx)) rfl <| ?_
      refine vc (S1.callF rfl (xredo2_spec hc hw (by omega) (s := x) (by omega)) (take1 at0 take0)) rfl ?_
      rintro _ _ ⟨w, cc2, rfl, hno, hyes, rfl⟩
      refine app ?_
      refine v0 (S0.not rfl) rfl <| vE <| ?_
      first | refine WP.condP rfl (fun h3 => ?_) (fun h3 => ?_) | refine WP.condN rfl (fun h3 => ?_) (fun h3 => ?_) | refine WP.cond rfl (fun h3 => ?_) (fun h3 => ?_)
      · have hno := hno (by simpa using h3)
        refine WP.seq <| WP.region <| v0 (S0.assign rfl) rfl <| v0 (S0.assign rfl) rfl <| vE <| WP.ret <| ?_
        refine Leaves.drop (take1 (atS (atS (atS at0))) take0) ?_
        refine r2 rfl rfl rfl ?_
        exact .inl ⟨by rw [hbk, hbo, hrd, hno]; show (4 : Int) ≠ 0; decide, by rw [hbk, hbo, hrd, hno], dc2, by rw [hbk, hbo, hrd, hno]; exact hd2, rfl⟩
      · obtain ⟨b', hre, hw', hn', hc'⟩ := hyes (by simpa using h3)
        rw [hre] at hrd
        dsimp only at hrd
        refine WP.skip <| WP.region <| v0 (S0.move rfl) rfl <| v0 (S0.ari rfl rfl rfl (wrap_i64 (by omega))) rfl <| v0 (S0.assign rfl) rfl <| vE <| ?_
        exact ⟨(k + 1, b', cc2), (by first | exact ⟨hlt, hrd, hw', by omega, hc'⟩ | (dsimp only; exact ⟨hlt, hrd, hw', by omega, hc'⟩)), (show G.l.length - (k + 1) < G.l.length - k by omega), ⟨⟨rfl, rfl, rfl, trivial⟩, rfl, rfl⟩, ⟨_, (take1 at0 (take1 at0 (take1 at0 (take1 at0 take0))))⟩⟩
    · have e : k = G.l.length := by omega
      rw [e, List.drop_length, redosK] at hrd
      rw [hrd] at hbo
      rw [hbo] at hbk
      dsimp only at hbk
      refine WP.exit <| WP.seq <| WP.region <| v0 (S0.move rfl) rfl <| v0 (S0.assign rfl) rfl <| v0 (S0.assign rfl) rfl <| vE <| WP.ret <| ?_
      refine Leaves.drop (h' := [cc, rlB lb rb G.rd G.st (.slice la G.l.length lcap) G.sure :: lrow, dc2]) (k := []) (pm fun a_ => by (try simp only [List.flatten_append, List.flatten_cons, List.flatten_nil, List.append_nil, List.cons_append, List.nil_append, List.append_assoc, nOf_app, nOf_cons, nOf_nil, Nat.add_zero, Nat.zero_add, List.map_append, List.map_cons, List.map_nil, cel, sv]); first | done | omega) ?_
      refine r2 rfl rfl rfl ?_
      exact .inr ⟨by rw [hbk], b, G, b18, lb, cc, _, dc2, by rw [hbk], hw, by omega, hlg, hc, ⟨_, lrow, hls, rfl⟩, by rw [hbk]; exact hd2, rfl, rfl⟩
end Go.Proofs.YtjpjebfodhbdfaaGreatDoor
namespace Go.Proofs.YtjpjebfodhbdfaaGreatDoor
open Go
theorem putV_le7 {n : Nat} (h : n ≤ 1099511627776) : (putV n).length ≤ 7 := by
  rw [putV_len]; unfold sizeV behN
  split; omega
  split; omega
  split; omega
  split; omega
  split; omega
  split; omega
  split <;> omega
theorem putV_le1 {n : Nat} (h : n ≤ 240) : (putV n).length = 1 := by
  rw [putV_len]; unfold sizeV; rw [if_pos h]
theorem flatLe {α : Type} {f : α → Str} {m : Nat} : ∀ (l : List α), (∀ x ∈ l, (f x).length ≤ m) → (l.flatMap f).length ≤ m * l.length
  | [], _ => by simp
  | x :: l, h => by
    have h1 := flatLe l fun y hy => h y (by simp [hy])
    have h2 := h x (by simp)
    rw [List.flatMap_cons, List.length_append, List.length_cons, Nat.mul_add]; omega
theorem putE_len {e : Ev} (h : rightE e = true) : (putE e).length ≤ 224 := by
  have hb := rightE_bd h
  obtain ⟨ht, hl⟩ := right_tl h
  have a1 := putV_le7 (n := e.o.toNat) (by omega)
  have a2 := putV_le7 (n := e.s.toNat) (by omega)
  have a3 := putV_le7 (n := e.e.toNat) (by omega)
  have a4 := putV_le1 (n := e.t.length) (by omega)
  have a5 := putV_le1 (n := e.l.length) (by omega)
  unfold putE textB
  rw [if_pos h]
  simp only [List.length_append]
  omega
theorem bytes_len {b : Ct} (h : CtOk b) (hn : b.n ≤ 1000000) : (bytesK b).length ≤ 16384 := by
  obtain ⟨-, m2, m3⟩ := sortedM_iff.1 h.ms
  have hl := h.len
  have a1 := putV_le7 (n := b.n) (by omega)
  have a2 := putV_le7 (n := b.M.length) (by omega)
  have a3 := putV_le7 (n := b.L.length) (by omega)
  have e0 : marksB b.M = putV b.M.length ++ b.M.flatMap mkB := by unfold marksB; rw [if_pos h.ms]
  have a4 := flatLe (f := mkB) (m := 14) b.M fun x hx => by
    have := m2 x hx
    have b1 := putV_le7 (n := x.1.toNat) (by omega)
    have b2 := putV_le7 (n := x.2.toNat) (by omega)
    rw [List.length_append]; omega
  have a5 := flatLe (f := entB) (m := 231) b.L fun x hx => by
    have b1 := putV_le7 (n := x.1) (by have := h.top x hx; omega)
    have b2 := putE_len (h.ev x hx).1
    rw [List.length_append]; omega
  unfold bytesK
  rw [e0]
  simp only [List.length_append]
  omega
theorem putR_len {e : Ev} (h : rightE e = true) : (putR e).length ≤ 225 := by
  have := putE_len h
  unfold putR; rw [List.length_cons]; omega
theorem tickR_len (n : Int) : (tickR n).length ≤ 225 := by
  have := putV_le9 n.toNat
  unfold tickR; rw [List.length_cons]; omega
theorem row_len {rd : Nat} {s : Str} (h : s.length ≤ 1024) : (rowB rd s).length ≤ 1046 := by
  have := rowB_le rd (s := s); omega
theorem text_len {rd : Nat} {l : List Str} (hl : ∀ s ∈ l, s.length ≤ 1024) : (textL rd l).length ≤ 1046 * l.length := by
  unfold textL
  exact flatLe l fun s hs => row_len (hl s hs)
structure SvOk (N : Nat) (r : R4) (b : Ct) (G : Lg) : Prop where
  f0 : r.get 0 = if G.rd = 0 then [] else rowB G.rd G.st
  z : G.rd = 0 → G.st = []
  f1 : recsB G.rd (allB (r.get 1)) = G.l
  rd : G.rd ≤ N
  st : G.st.length ≤ 16384
  l : ∀ s ∈ G.l, s.length ≤ 1024
  n : G.l.length ≤ 40
  bk : bookOf G.st G.l = some b
  ok : CtOk b
  bn : b.n ≤ N
theorem SvOk.mono {N N' : Nat} (hN : N ≤ N') {r : R4} {b : Ct} {G : Lg} (h : SvOk N r b G) : SvOk N' r b G := ⟨h.f0, h.z, h.f1, Nat.le_trans h.rd hN, h.st, h.l, h.n, h.bk, h.ok, Nat.le_trans h.bn hN⟩
theorem SvOk.head {N : Nat} (hN : N ≤ 1000000) {r : R4} {b : Ct} {G : Lg} (h : SvOk N r b G) : headB (r.get 0) = (G.rd, G.st, 0) := by
  rw [h.f0]
  by_cases h0 : G.rd = 0
  · rw [if_pos h0, h0, h.z h0]; rfl
  · rw [if_neg h0]
    have h1 := h.rd
    have h2 := h.st
    have h3 := putV_le9 G.rd
    exact head_row (by omega) (by rw [List.length_append]; omega)
structure Good (P : Ct → Prop) (N : Nat) (b : Ct) (G : Lg) (D : Dk) : Prop where
  sv : SvOk N D.now b G
  f1 : D.now.get 1 = textL G.rd G.l
  g : DkG D
  W : D.W.length ≤ 3 * N
  pb : P b
  cr : ∀ left, ∃ b' G', P b' ∧ SvOk N (crashL D.W D.kept left) b' G'
theorem Good.mono {P Q : Ct → Prop} {N N' : Nat} (hN : N ≤ N') (hP : ∀ b, P b → Q b) {b : Ct} {G : Lg} {D : Dk} (h : Good P N b G D) : Good Q N' b G D :=
  ⟨h.sv.mono hN, h.f1, h.g, by have := h.W; omega, hP _ h.pb, fun left => by obtain ⟨b', G', h1, h2⟩ := h.cr left; exact ⟨b', G', hP _ h1, h2.mono hN⟩⟩
theorem Good.z : Good (fun b => b = ct0) 0 ct0 ⟨0, [], [], 0⟩ dk0 := by
  have hs : SvOk 0 r4z ct0 ⟨0, [], [], 0⟩ := ⟨rfl, fun _ => rfl, rfl, Nat.le_refl _, Nat.zero_le _, by simp, Nat.zero_le _, rfl, CtOk.nil, Nat.le_refl _⟩
  exact ⟨hs, rfl, DkG.z, Nat.zero_le _, rfl, fun _ => ⟨ct0, _, rfl, hs⟩⟩
theorem crash_put {D : Dk} (h : DkG D) {x : Wr} (hx : x.f < 4) (left : Nat) : (∃ l, crashL (putK D x).W (putK D x).kept left = crashL D.W D.kept l) ∨ crashL (putK D x).W (putK D x).kept left = D.now ∨ ∃ n, n ≤ x.units ∧ crashL (putK D x).W (putK D x).kept left = x.doW D.now n := by
  have hA : ∀ y ∈ D.W, y.f < 4 := fun y hy => (h.ok.w y hy).1
  show (∃ l, crashL (D.W ++ [x]) D.kept left = _) ∨ crashL (D.W ++ [x]) D.kept left = _ ∨ ∃ n, n ≤ x.units ∧ crashL (D.W ++ [x]) D.kept left = _
  rw [crashL_app _ _ _ _ hA (by simpa using hx)]
  split
  · exact .inl ⟨left, rfl⟩
  · simp only [crashL]
    split
    · exact .inr (.inl rfl)
    · exact .inr (.inr ⟨_, Nat.min_le_right _ _, rfl⟩)
theorem Good.append {P Q : Ct → Prop} {N : Nat} (hN : N ≤ 900000) {b c : Ct} {G : Lg} {D : Dk} {s : Str} (h : Good P N b G D) (hP : ∀ b, P b → Q b) (hc : Q c) (hk : CtOk c) (hcn : c.n ≤ N) (hl : G.l.length < 40) (hs : s.length ≤ 1024) (hr : redoK b s = some c) (hW : D.W.length + 1 ≤ 3 * N) :
    (appendLg G D s).1 = 0 ∧ Good Q N c (appendLg G D s).2.1 (appendLg G D s).2.2 := by
  have hrd := h.sv.rd
  have hll := h.sv.l
  have h1 := row_len (rd := G.rd) hs
  have h2 := text_len (rd := G.rd) hll
  have ha : appendK D 1 (rowB G.rd s) = (0, putK D ⟨false, 1, rowB G.rd s⟩) := by unfold appendK; rw [h.f1, if_neg (by omega)]
  have hl2 : ∀ x ∈ G.l ++ [s], x.length ≤ 1024 := fun x hx => by
    rcases List.mem_append.1 hx with hx | hx
    · exact hll x hx
    · simp at hx; subst hx; exact hs
  have e1 : textL G.rd G.l ++ rowB G.rd s = textL G.rd (G.l ++ [s]) := by rw [textL_app]; simp [textL]
  have he : appendLg G D s = (0, { G with l := G.l ++ [s] }, putK D ⟨false, 1, rowB G.rd s⟩) := by
    unfold appendLg; rw [if_neg (by omega), ha, if_neg (by simp)]
  have hdo : ∀ n, ((⟨false, 1, rowB G.rd s⟩ : Wr).doW D.now n).get 0 = D.now.get 0 ∧ ((⟨false, 1, rowB G.rd s⟩ : Wr).doW D.now n).get 1 = textL G.rd G.l ++ (rowB G.rd s).take n := fun n => by
    rw [doW_get (x := ⟨false, 1, rowB G.rd s⟩) (by simp), doW_get (x := ⟨false, 1, rowB G.rd s⟩) (by simp)]
    exact ⟨rfl, by rw [← h.f1]; rfl⟩
  have hnow : (putK D ⟨false, 1, rowB G.rd s⟩).now = (⟨false, 1, rowB G.rd s⟩ : Wr).doW D.now (rowB G.rd s).length := putK_now _ _
  have hfull : SvOk N ((⟨false, 1, rowB G.rd s⟩ : Wr).doW D.now (rowB G.rd s).length) c { G with l := G.l ++ [s] } := by
    refine ⟨(hdo _).1.trans h.sv.f0, h.sv.z, ?_, hrd, h.sv.st, hl2, by simp; omega, bookOf_snoc h.sv.bk hr, hk, hcn⟩
    rw [(hdo _).2, List.take_length, e1, recs_text (by omega) hl2, if_pos rfl]
  rw [he]
  refine ⟨rfl, ?_, ?_, ?_, ?_, hc, fun left => ?_⟩
  · rw [hnow]; exact hfull
  · rw [hnow, (hdo _).2, List.take_length, e1]
  · have := h.g.append (f := 1) (by decide) (rowB G.rd s); rw [ha] at this; exact this
  · simp [putK]; omega
  · rcases crash_put h.g (x := ⟨false, 1, rowB G.rd s⟩) (by simp) left with ⟨l, e⟩ | e | ⟨n, hn, e⟩
    · obtain ⟨b', G', q1, q2⟩ := h.cr l
      exact ⟨b', G', hP _ q1, by dsimp only; rw [e]; exact q2⟩
    · exact ⟨b, G, hP _ h.pb, by dsimp only; rw [e]; exact h.sv⟩
    · have hn : n ≤ (rowB G.rd s).length := hn
      by_cases h3 : n = (rowB G.rd s).length
      · subst h3
        exact ⟨c, _, hc, by dsimp only; rw [e]; exact hfull⟩
      · refine ⟨b, G, hP _ h.pb, ?_⟩
        dsimp only
        rw [e]
        refine ⟨(hdo _).1.trans h.sv.f0, h.sv.z, ?_, hrd, h.sv.st, hll, by omega, h.sv.bk, h.sv.ok, h.sv.bn⟩
        rw [(hdo _).2, recs_cut (by omega) hll hs (by omega)]
theorem Good.check {P : Ct → Prop} {N N' : Nat} (hN : N ≤ 900000) (hN' : N + 1 ≤ N') {b : Ct} {G : Lg} {D : Dk} (h : Good P N b G D) (hW : D.W.length + 2 ≤ 3 * N') :
    Good P N' b (checkLg G D (bytesK b)).2.1 (checkLg G D (bytesK b)).2.2 ∧ (checkLg G D (bytesK b)).2.1.l = [] := by
  have hrd := h.sv.rd
  have hbn := h.sv.bn
  have hll := h.sv.l
  have hbl := bytes_len h.sv.ok (by omega)
  have h1 := rowB_le (G.rd + 1) (s := bytesK b)
  have hbk : bookOf (bytesK b) [] = some b := by
    have hne : bytesK b ≠ [] := by
      intro e
      have := read_bytes h.sv.ok (by omega)
      rw [e] at this
      cases this
    unfold bookOf
    rw [if_neg hne, read_bytes h.sv.ok (by omega)]; rfl
  have ha : replaceK D 0 (rowB (G.rd + 1) (bytesK b)) = (0, putK D ⟨true, 0, rowB (G.rd + 1) (bytesK b)⟩) := by unfold replaceK; rw [if_neg (by omega)]
  have hg1 : DkG (putK D ⟨true, 0, rowB (G.rd + 1) (bytesK b)⟩) := by
    have := h.g.replace (f := 0) (by decide) (rowB (G.rd + 1) (bytesK b)); rw [ha] at this; exact this
  have hb : replaceK (putK D ⟨true, 0, rowB (G.rd + 1) (bytesK b)⟩) 1 [] = (0, putK (putK D ⟨true, 0, rowB (G.rd + 1) (bytesK b)⟩) ⟨true, 1, []⟩) := by unfold replaceK; rw [if_neg (by simp)]
  have hg2 : DkG (putK (putK D ⟨true, 0, rowB (G.rd + 1) (bytesK b)⟩) ⟨true, 1, []⟩) := by
    have := hg1.replace (f := 1) (by decide) []; rw [hb] at this; exact this
  have he : checkLg G D (bytesK b) = (0, ⟨G.rd + 1, bytesK b, [], 0⟩, putK (putK D ⟨true, 0, rowB (G.rd + 1) (bytesK b)⟩) ⟨true, 1, []⟩) := by
    unfold checkLg; rw [if_neg (by omega), ha, hb]
  have n1 : (putK D ⟨true, 0, rowB (G.rd + 1) (bytesK b)⟩).now = D.now.set 0 (rowB (G.rd + 1) (bytesK b)) := putK_now _ _
  have n2 : (putK (putK D ⟨true, 0, rowB (G.rd + 1) (bytesK b)⟩) ⟨true, 1, []⟩).now = (D.now.set 0 (rowB (G.rd + 1) (bytesK b))).set 1 [] := by rw [putK_now, n1]; rfl
  have s1 : SvOk N' (D.now.set 0 (rowB (G.rd + 1) (bytesK b))) b ⟨G.rd + 1, bytesK b, [], 0⟩ := by
    refine ⟨by rw [R4.get_set _ (by decide)]; simp, by simp, ?_, by dsimp only; omega, hbl, by simp, by simp, hbk, h.sv.ok, by omega⟩
    have e : (D.now.set 0 (rowB (G.rd + 1) (bytesK b))).get 1 = textL G.rd G.l := by rw [R4.get_set _ (by decide), ← h.f1]; rfl
    rw [e, recs_text (by omega) hll, if_neg (by simp)]
  have s2 : SvOk N' ((D.now.set 0 (rowB (G.rd + 1) (bytesK b))).set 1 []) b ⟨G.rd + 1, bytesK b, [], 0⟩ := by
    refine ⟨by rw [R4.get_set _ (by decide), R4.get_set _ (by decide)]; simp, by simp, ?_, by dsimp only; omega, hbl, by simp, by simp, hbk, h.sv.ok, by omega⟩
    rw [R4.get_set _ (by decide)]; rfl
  rw [he]
  refine ⟨⟨?_, ?_, hg2, by simp [putK]; omega, h.pb, fun left => ?_⟩, rfl⟩
  · rw [n2]; exact s2
  · rw [n2, R4.get_set _ (by decide)]; rfl
  · dsimp only
    have d1 : ∀ n, (⟨true, 0, rowB (G.rd + 1) (bytesK b)⟩ : Wr).doW D.now n = D.now ∨ (⟨true, 0, rowB (G.rd + 1) (bytesK b)⟩ : Wr).doW D.now n = D.now.set 0 (rowB (G.rd + 1) (bytesK b)) := fun n => by
      unfold Wr.doW; simp only [if_true]; split
      · exact .inr rfl
      · exact .inl rfl
    have d2 : ∀ n, (⟨true, 1, []⟩ : Wr).doW (D.now.set 0 (rowB (G.rd + 1) (bytesK b))) n = D.now.set 0 (rowB (G.rd + 1) (bytesK b)) ∨ (⟨true, 1, []⟩ : Wr).doW (D.now.set 0 (rowB (G.rd + 1) (bytesK b))) n = (D.now.set 0 (rowB (G.rd + 1) (bytesK b))).set 1 [] := fun n => by
      unfold Wr.doW; simp only [if_true]; split
      · exact .inr rfl
      · exact .inl rfl
    rcases crash_put hg1 (x := ⟨true, 1, []⟩) (by simp) left with ⟨l, e⟩ | e | ⟨n, -, e⟩
    · rw [e]
      rcases crash_put h.g (x := ⟨true, 0, rowB (G.rd + 1) (bytesK b)⟩) (by simp) l with ⟨l, e⟩ | e | ⟨n, -, e⟩
      · rw [e]
        obtain ⟨b', G', q1, q2⟩ := h.cr l
        exact ⟨b', G', q1, q2.mono (by omega)⟩
      · rw [e]; exact ⟨b, G, h.pb, h.sv.mono (by omega)⟩
      · rw [e]
        rcases d1 n with e | e
        · rw [e]; exact ⟨b, G, h.pb, h.sv.mono (by omega)⟩
        · rw [e]; exact ⟨b, _, h.pb, s1⟩
    · rw [e, n1]; exact ⟨b, _, h.pb, s1⟩
    · rw [e, n1]
      rcases d2 n with e | e
      · rw [e]; exact ⟨b, _, h.pb, s1⟩
      · rw [e]; exact ⟨b, _, h.pb, s2⟩
theorem Good.note {P Q : Ct → Prop} {N : Nat} (hN : N ≤ 800000) {b c : Ct} {G : Lg} {D : Dk} {s : Str} (h : Good P N b G D) (hP : ∀ b, P b → Q b) (hc : Q c) (hk : CtOk c) (hcn : c.n ≤ N + 1) (hs : s.length ≤ 1024) (hr : redoK b s = some c) :
    Good Q (N + 1) c (noteK b G D s).1 (noteK b G D s).2 := by
  have hW := h.W
  unfold noteK
  by_cases h1 : 40 ≤ G.l.length
  · rw [if_pos h1]
    obtain ⟨g1, g2⟩ := h.check (N' := N + 1) (by omega) (Nat.le_refl _) (by omega)
    have hw1 := checkLg_W G D (bytesK b)
    exact (g1.append (by omega) hP hc hk hcn (by rw [g2]; simp) hs hr (by omega)).2
  · rw [if_neg h1]
    exact ((h.mono (N' := N + 1) (by omega) fun _ q => q).append (by omega) hP hc hk hcn (by omega) hs hr (by omega)).2
theorem Good.put {P Q : Ct → Prop} {N : Nat} (hN : N ≤ 800000) {b : Ct} {G : Lg} {D : Dk} (h : Good P N b G D) (e : Ev) (hP : ∀ b, P b → Q b) (hc : Q (putBk b G D e).2.1) : Good Q (N + 1) (putBk b G D e).2.1 (putBk b G D e).2.2.1 (putBk b G D e).2.2.2 := by
  unfold putBk at hc ⊢
  by_cases hw : whyK b e ≠ 0
  · rw [if_pos hw] at hc ⊢; exact h.mono (by omega) hP
  · rw [if_neg hw] at hc ⊢
    have hw := Decidable.not_not.1 hw
    have hr := (why_zero hw).1
    have hp := putR_len hr
    have := h.sv.bn
    exact h.note hN hP hc (h.sv.ok.add hw) (by simp only [addK]; omega) (by omega) (redo_put hw)
theorem Good.tick {P Q : Ct → Prop} {N : Nat} (hN : N ≤ 800000) {b : Ct} {G : Lg} {D : Dk} (h : Good P N b G D) (n : Int) (hP : ∀ b, P b → Q b) (hc : Q (tickBk b G D n).2.1) : Good Q (N + 1) (tickBk b G D n).2.1 (tickBk b G D n).2.2.1 (tickBk b G D n).2.2.2 := by
  unfold tickBk at hc ⊢
  by_cases hw : n < 1 ∨ 1000 < n
  · rw [if_pos hw] at hc ⊢; exact h.mono (by omega) hP
  · rw [if_neg hw] at hc ⊢
    have hp := tickR_len n
    have := h.sv.bn
    exact h.note hN hP hc (h.sv.ok.age n) (by simp only [ageK]; omega) (by omega) (redo_tick (by omega) (by omega))
theorem Good.sync {P : Ct → Prop} {N : Nat} {b : Ct} {G : Lg} {D : Dk} (h : Good P N b G D) : Good (fun c => c = b) N b (syncLg G) (syncK D) := by
  have hs : SvOk N D.now b (syncLg G) := ⟨h.sv.f0, h.sv.z, h.sv.f1, h.sv.rd, h.sv.st, h.sv.l, h.sv.n, h.sv.bk, h.sv.ok, h.sv.bn⟩
  exact ⟨hs, h.f1, h.g.sync, Nat.zero_le _, rfl, fun left => ⟨b, _, rfl, hs⟩⟩
theorem open_good {N : Nat} (hN : N ≤ 900000) {D : Dk} {b : Ct} {G : Lg} (hg : DkG D) (h : SvOk N D.now b G) : ∃ G' D', openBk D = (0, some (b, G'), D') ∧ (openLg D).1 = 0 ∧ ((openLg D).2.1.st = [] ∨ ∃ B, readK (openLg D).2.1.st = some B) ∧ Good (fun c => c = b) N b G' D' := by
  have hhd := h.head (by omega)
  have hll := h.l
  have hn := h.n
  have htl := text_len (rd := G.rd) hll
  have hf1 := h.f1
  have hrd := h.rd
  have hol : openLg D = (0, ⟨G.rd, G.st, G.l, G.l.length⟩, syncK (if textL G.rd G.l ≠ D.now.get 1 then (replaceK D 1 (textL G.rd G.l)).2 else D)) := by
    unfold openLg; rw [hhd]; dsimp only; rw [if_neg (by simp), hf1]
  have hst : G.st = [] ∨ ∃ B, readK G.st = some B := by
    have hb := h.bk
    unfold bookOf at hb
    by_cases e : G.st = []
    · exact .inl e
    · rw [if_neg e] at hb
      cases hq : readK G.st with
      | none => rw [hq] at hb; cases hb
      | some B => exact .inr ⟨B, rfl⟩
  have hbk : openBk D = (0, some (b, ⟨G.rd, G.st, G.l, G.l.length⟩), (openLg D).2.2) := by
    unfold openBk; rw [if_neg (by rw [hol]; simp), hol]; dsimp only; rw [h.bk]
  have hnow : (openLg D).2.2.now.get 0 = D.now.get 0 ∧ (openLg D).2.2.now.get 1 = textL G.rd G.l := by
    rw [hol]
    dsimp only
    rw [syncK_now]
    by_cases e : textL G.rd G.l ≠ D.now.get 1
    · rw [if_pos e]
      have ha : replaceK D 1 (textL G.rd G.l) = (0, putK D ⟨true, 1, textL G.rd G.l⟩) := by unfold replaceK; rw [if_neg (by omega)]
      rw [ha]
      dsimp only
      have : (putK D ⟨true, 1, textL G.rd G.l⟩).now = D.now.set 1 (textL G.rd G.l) := putK_now _ _
      rw [this, R4.get_set _ (by decide), R4.get_set _ (by decide)]
      exact ⟨rfl, rfl⟩
    · rw [if_neg e]; exact ⟨rfl, (Decidable.not_not.1 e).symm⟩
  have hW : (openLg D).2.2.W = [] := by rw [hol]; rfl
  have hs : SvOk N (openLg D).2.2.now b ⟨G.rd, G.st, G.l, G.l.length⟩ := by
    refine ⟨hnow.1.trans h.f0, h.z, ?_, hrd, h.st, hll, hn, h.bk, h.ok, h.bn⟩
    rw [hnow.2, recs_text (by omega) hll, if_pos rfl]
  refine ⟨_, _, hbk, by rw [hol], by rw [hol]; exact hst, hs, hnow.2, openLg_DkG hg, by rw [hW]; simp, rfl, fun left => ⟨b, ⟨G.rd, G.st, G.l, G.l.length⟩, rfl, ?_⟩⟩
  have hk : (openLg D).2.2.kept = (openLg D).2.2.now := by rw [hol]; rfl
  rw [hW, hk]; exact hs
theorem Good.crash {P : Ct → Prop} {N : Nat} (hN : N ≤ 900000) {b : Ct} {G : Lg} {D : Dk} (h : Good P N b G D) (n : Int) : ∃ b' G' D', P b' ∧ openBk (crashK D n) = (0, some (b', G'), D') ∧ (openLg (crashK D n)).1 = 0 ∧ ((openLg (crashK D n)).2.1.st = [] ∨ ∃ B, readK (openLg (crashK D n)).2.1.st = some B) ∧ Good (fun c => c = b') N b' G' D' := by
  obtain ⟨b', G', hp, hs⟩ := h.cr (leftK D n)
  obtain ⟨G2, D2, e1, e2, e3, e4⟩ := open_good hN (D := crashK D n) (h.g.crash n) hs
  exact ⟨b', G2, D2, hp, e1, e2, e3, e4⟩
end Go.Proofs.YtjpjebfodhbdfaaGreatDoor
namespace Go.Proofs.YtjpjebfodhbdfaaGreatDoor
open Go
structure OpB where
  k : Int
  e : Ev
  n : Int
abbrev enO (x : OpB) : List Value := [.int .i64 x.k, .int .i64 x.e.o, .int .i64 x.e.s, sv x.e.t, sv x.e.l, .int .i64 x.e.e, .int .i64 x.n]
theorem enO_len (x : OpB) : (enO x).length = 6 + 1 := rfl
abbrev opK : List CK := [.i .i64, .i .i64, .i .i64, .s, .s, .i .i64, .i .i64]
abbrev mkK : List CK := [.i .i64, .i .i64]
theorem argOps {W : World} {v : Value} (h : ArgF W opK v) : ∃ l : List OpB, Rd 7 enO v l (whole W) := by
  obtain ⟨a, len, cap, rfl, hc, h⟩ := h
  rcases h with rfl | ⟨b, o, L, U, fz, rfl, hm, hf⟩
  · exact ⟨[], ⟨a, cap, rfl, hc, .inl rfl⟩⟩
  · obtain ⟨l, h1, -, h3⟩ := choose_elems (k := 7) (en := enO) (Q := fun _ => True) (L := L) (o := o) (len := len) fun i hi => by
      have hf := hf i hi
      obtain ⟨_, e0, n0, rfl, -⟩ := hf 0 _ rfl
      obtain ⟨_, e1, n1, rfl, -⟩ := hf 1 _ rfl
      obtain ⟨_, e2, n2, rfl, -⟩ := hf 2 _ rfl
      obtain ⟨_, e3, n3, rfl, -⟩ := hf 3 _ rfl
      obtain ⟨_, e4, n4, rfl, -⟩ := hf 4 _ rfl
      obtain ⟨_, e5, n5, rfl, -⟩ := hf 5 _ rfl
      obtain ⟨_, e6, n6, rfl, -⟩ := hf 6 _ rfl
      refine ⟨⟨n0, ⟨n1, n2, n3, n4, n5⟩, n6⟩, trivial, take_cells (enO ⟨n0, ⟨n1, n2, n3, n4, n5⟩, n6⟩) _ fun j x hj => ?_⟩
      match j, hj with
      | 0, hj => cases hj; exact e0
      | 1, hj => cases hj; exact e1
      | 2, hj => cases hj; exact e2
      | 3, hj => cases hj; exact e3
      | 4, hj => cases hj; exact e4
      | 5, hj => cases hj; exact e5
      | 6, hj => cases hj; exact e6
    subst h1
    exact ⟨l, ⟨_, cap, rfl, hc, .inr ⟨b, o, L, U, fz, rfl, whole_mem.2 hm, h3⟩⟩⟩
theorem argMks {W : World} {v : Value} (h : ArgF W mkK v) : ∃ l : List MkT, Rd 2 enM v l (whole W) := by
  obtain ⟨a, len, cap, rfl, hc, h⟩ := h
  rcases h with rfl | ⟨b, o, L, U, fz, rfl, hm, hf⟩
  · exact ⟨[], ⟨a, cap, rfl, hc, .inl rfl⟩⟩
  · obtain ⟨l, h1, -, h3⟩ := choose_elems (k := 2) (en := enM) (Q := fun _ => True) (L := L) (o := o) (len := len) fun i hi => by
      have hf := hf i hi
      obtain ⟨_, e0, n0, rfl, -⟩ := hf 0 _ rfl
      obtain ⟨_, e1, n1, rfl, -⟩ := hf 1 _ rfl
      refine ⟨(n0, n1), trivial, take_cells (enM (n0, n1)) _ fun j x hj => ?_⟩
      match j, hj with
      | 0, hj => cases hj; exact e0
      | 1, hj => cases hj; exact e1
    subst h1
    exact ⟨l, ⟨_, cap, rfl, hc, .inr ⟨b, o, L, U, fz, rfl, whole_mem.2 hm, h3⟩⟩⟩
def cutO (x : OpB) : OpB := ⟨x.k, ⟨x.e.o, x.e.s, x.e.t.take 150, x.e.l.take 150, x.e.e⟩, x.n⟩
def cutOs (l : List OpB) : List OpB := (l.take 100).map cutO
theorem cutOs_len (l : List OpB) : (cutOs l).length ≤ 100 := by simp [cutOs]; omega
theorem cutOs_mem {l : List OpB} : ∀ x ∈ cutOs l, x.e.t.length ≤ 150 ∧ x.e.l.length ≤ 150 := fun x hx => by
  obtain ⟨y, -, rfl⟩ := List.mem_map.1 hx
  simp only [cutO, List.length_take]
  omega
theorem min150 (n : Nat) : (if (150 : Int) < (n : Int) then 150 else (n : Int)) = ((min n 150 : Nat) : Int) := by split <;> omega
theorem take_min150 (l : Str) : (l.drop 0).take (min l.length 150 - 0) = l.take 150 := by
  rw [List.drop_zero, Nat.sub_zero]
  rcases Nat.le_total l.length 150 with h | h
  · rw [Nat.min_eq_left h, List.take_length, List.take_of_length_le h]
  · rw [Nat.min_eq_right h]
theorem take_one {α : Type} {l : List α} {i : Nat} {x : α} (h : l[i]? = some x) : l.take (i + 1) = l.take i ++ [x] := by rw [List.take_add_one, h]; rfl
theorem cut_spec {v : Value} {l : List OpB} {c : List Blk} (hr : Rd 7 enO v l c) : FN Tryz.prog 9 [v] [c] (fun u h => ∃ row, IsSl 43 7 u ((cutOs l).flatMap enO) row ∧ h = [row, c]) := by
  obtain ⟨a, cap, rfl, -, hr⟩ := hr
  refine FN.intro 48 [(0, .slice a l.length cap)] Tryz.func9 rfl (enters Tryz.func9 (by kernel_rfl) rfl) Tryz.ntmps9 rfl rfl ?_
  refine WP.seq <| WP.region <| v0 (S0.assign rfl) rfl <| vE <| WP.seq <| WP.region <| vnv (S1.buildSlice rfl (qs := []) rfl rfl) rfl fun b6 => v0 (S0.assign rfl) rfl <| vE <| WP.seq <| WP.seq <| WP.region <| v0 (S0.assign rfl) rfl <| vE <| WP.block <| ?_
  refine WP.loop (fun st : Nat × Value × List Blk => st.1 ≤ l.length ∧ st.1 ≤ 100 ∧ IsSl 43 7 st.2.1 (((l.take st.1).map cutO).flatMap enO) st.2.2) (fun st : Nat × Value × List Blk => [(0, .slice a l.length cap), (3, st.2.1), (4, .int .i64 (st.1 : Int))]) (fun st : Nat × Value × List Blk => [st.2.2, c]) (fun st : Nat × Value × List Blk => l.length - st.1) ((0, _, [(b6, .cells ⟨[]⟩ 43 (0, 0))])) (⟨Nat.zero_le _, Nat.zero_le _, IsSl.row (n := 0) (c := 0) (l := []) (sp := []) rfl rfl (Nat.le_refl _)⟩) ⟨rfl, rfl, rfl, trivial⟩ ⟨_, (take1 at0 (take1 at0 take0))⟩ (fun st hinv => ?_)
  obtain ⟨i, ov, orow⟩ := st
  obtain ⟨hi, hi2, hosl⟩ := hinv
  dsimp only at hi hi2 hosl ⊢
  refine WP.seq <| WP.seq <| WP.region <| v0 (S0.move rfl) rfl <| v0 (S0.move rfl) rfl <| v0 (S0.lenSl rfl) rfl <| v0 (S0.cmp rfl rfl rfl) rfl <| v0 (S0.move rfl) rfl <| ?_
  first | refine csP (t := 11) rfl (fun h1 => ?_) (fun h1 => ?_) | refine csN (t := 11) rfl (fun h1 => ?_) (fun h1 => ?_) | refine cs (t := 11) rfl (fun h1 => ?_) (fun h1 => ?_)
  · have hlt : i < l.length := by omega
    rcases hr with e | ⟨b, o, GL, U, fz, rfl, hmem, hel⟩
    · rw [e] at hlt; simp at hlt
    have : HasC c b (.cells ⟨GL⟩ U fz) := ⟨hmem⟩
    have hx : l[i]? = some l[i] := by simp [hlt]
    generalize l[i] = x at hx
    obtain ⟨x0, ⟨x1, x2, x3, x4, x5⟩, x6⟩ := x
    have hele : (GL.drop (o + i * 7)).take 7 = [.int .i64 x0, .int .i64 x1, .int .i64 x2, sv x3, sv x4, .int .i64 x5, .int .i64 x6] := hel i _ hx
    have htk := take_one hx
    refine gT rfl <| v0 (S0.move rfl) rfl <| gT rfl <| v0 (S0.cmp rfl rfl rfl) rfl <| v0 (S0.pickT rfl rfl) rfl <| vE <| ?_
    first | refine WP.condP rfl (fun h2 => ?_) (fun h2 => ?_) | refine WP.condN rfl (fun h2 => ?_) (fun h2 => ?_) | refine WP.cond rfl (fun h2 => ?_) (fun h2 => ?_)
    · refine WP.skip <| WP.seq <| WP.block <| WP.seq <| WP.region <| v0 (S0.move rfl) rfl <| v0 (S0.move rfl) rfl <| ?_
      refine v0 (S0.indexO (k := 7) rfl rfl hlt) rfl <| ?_
      refine v0 (S0.loadA rfl hele rfl) rfl <| ?_
      refine vn (S1.alloc) rfl fun b5 => vs (S1.storeA rfl rfl rfl) <| vE <| WP.seq <| WP.region <| v0 (S0.fieldAddr rfl) rfl <| v0 (S0.fieldAddr rfl) rfl <| v0 (S0.load rfl rfl) rfl <| v0 (S0.fieldAddr rfl) rfl <| v0 (S0.fieldAddr rfl) rfl <| v0 (S0.load rfl rfl) rfl <| v0 (S0.lenSt rfl) rfl <| v0 (S0.min2 rfl rfl rfl) rfl <| ?_
      rw [min150]
      refine v0 (S0.sliceSt (i := 0) (j := min x3.length 150) rfl rfl rfl ⟨Nat.zero_le _, by omega⟩) rfl <| ?_
      rw [take_min150]
      refine v0 (S0.fieldAddr rfl) rfl <| v0 (S0.fieldAddr rfl) rfl <| vs (S1.store rfl rfl (by first | rfl | exact IsSl.cv (by assumption))) <| vE <| WP.seq <| WP.region <| v0 (S0.fieldAddr rfl) rfl <| v0 (S0.fieldAddr rfl) rfl <| v0 (S0.load rfl rfl) rfl <| v0 (S0.fieldAddr rfl) rfl <| v0 (S0.fieldAddr rfl) rfl <| v0 (S0.load rfl rfl) rfl <| v0 (S0.lenSt rfl) rfl <| v0 (S0.min2 rfl rfl rfl) rfl <| ?_
      rw [min150]
      refine v0 (S0.sliceSt (i := 0) (j := min x4.length 150) rfl rfl rfl ⟨Nat.zero_le _, by omega⟩) rfl <| ?_
      rw [take_min150]
      refine v0 (S0.fieldAddr rfl) rfl <| v0 (S0.fieldAddr rfl) rfl <| vs (S1.store rfl rfl (by first | rfl | exact IsSl.cv (by assumption))) <| vE <| WP.region <| v0 (S0.move rfl) rfl <| v0 (S0.loadAL rfl) rfl <| vnv (S1.buildSlice rfl (qs := [(0, _)]) rfl rfl) rfl fun b45 => ?_
      refine ve (S1.appendL rfl hosl rfl rfl (atS (atS at0)) rfl rfl (by rw [flat_len enO_len]; simp; omega)) rfl ?_
      rintro v2 _ ⟨row2, hsl2, rfl⟩
      have hsl3 : IsSl 43 7 v2 (((l.take (i + 1)).map cutO).flatMap enO) row2 := by
        rw [htk, List.map_append, List.flatMap_append]
        simpa [cutO] using hsl2
      refine v0 (S0.assign rfl) rfl <| vE <| WP.region <| v0 (S0.move rfl) rfl <| v0 (S0.ari rfl rfl rfl (wrap_i64 (by omega))) rfl <| v0 (S0.assign rfl) rfl <| vE <| ?_
      exact ⟨(i + 1, v2, row2), (by first | exact ⟨hlt, by omega, hsl3⟩ | (dsimp only; exact ⟨hlt, by omega, hsl3⟩)), (show l.length - (i + 1) < l.length - i by omega), ⟨⟨rfl, rfl, rfl, trivial⟩, rfl, rfl⟩, ⟨_, (take1 at0 (take1 (atS (atS at0)) take0))⟩⟩
    · refine WP.exit <| WP.seq <| WP.region <| v0 (S0.move rfl) rfl <| v0 (S0.assign rfl) rfl <| vE <| WP.ret <| ?_
      refine r1 rfl rfl ?_
      exact ⟨orow, by rw [cutOs, ← show i = 100 by omega]; exact hosl, rfl⟩
  · refine gF rfl rfl <| gF rfl rfl <| v0 (S0.pickF rfl rfl) rfl <| vE <| WP.condF rfl <| WP.exit <| WP.seq <| WP.region <| v0 (S0.move rfl) rfl <| v0 (S0.assign rfl) rfl <| vE <| WP.ret <| ?_
    refine r1 rfl rfl ?_
    exact ⟨orow, by rw [cutOs, List.take_of_length_le (by omega)]; rw [List.take_of_length_le (by omega)] at hosl; exact hosl, rfl⟩
end Go.Proofs.YtjpjebfodhbdfaaGreatDoor
namespace Go.Proofs.YtjpjebfodhbdfaaGreatDoor
open Go
theorem sameB_spec {bb lb db rk rl rb : Nat} {b : Ct} {G : Lg} {D : Dk} {cc dc rcc rlc rdc : List Blk} (hc : IsCt bb lb b cc) (hd : IsDisk db D dc) (hrc : IsRCt rk rl b rcc) (hrl : IsRLog rl rb G rlc) (hrd : IsRDk rb D rdc) (ho : CtW b) (hk : DkOk D) (hW : D.W.length ≤ 1000000) :
    FN Tryz.prog 13 [ptrB bb, ptrB rk, ptrB db] [cc, dc, rcc, rlc, rdc] (is (.bool true) [cc, dc, rcc, rlc, rdc]) := by
  obtain ⟨v1, row1, v2, row2, v3, row3, h1, h2, h3, rfl⟩ := hrc
  obtain ⟨a1, c1, rfl, -, -⟩ := IsSl.elems (k := 4) evB_len h1
  obtain ⟨lv, lrow, hls, rfl⟩ := hrl
  have hl := ho.len
  have hL1 : (b.L.map (·.2)).length = b.L.length := List.length_map _
  obtain ⟨-, hlM⟩ := ho.ris
  refine FN.intro 82 [(0, ptrB bb), (1, ptrB rk), (2, ptrB db)] Tryz.func13 rfl (enters Tryz.func13 (by kernel_rfl) rfl) Tryz.ntmps13 rfl rfl ?_
  refine WP.perm (h' := [[rbB rk rl (.slice a1 (b.L.map (·.2)).length c1) v2 v3 (b.n : Int)], [rlB rl rb G.rd G.st lv G.sure], cc, dc, row1, row2, row3, lrow, rdc]) (k := []) (pm fun a_ => by (try simp only [List.flatten_append, List.flatten_cons, List.flatten_nil, List.append_nil, List.cons_append, List.nil_append, List.append_assoc, nOf_app, nOf_cons, nOf_nil, Nat.add_zero, Nat.zero_add, List.map_append, List.map_cons, List.map_nil, cel, sv]); first | done | omega) ?_
  refine WP.seq <| WP.region <| v0 (S0.assign rfl) rfl <| vE <| WP.seq <| WP.drawP [(0, none), (2, none), (3, none), (4, none), (5, none), (1, none), (6, none), (7, none), (8, none), (10, none), (11, none), (12, none), (13, none), (9, none), (14, none), (15, none), (16, none), (17, none), (19, none), (20, none), (21, none), (22, none), (18, none), (23, none), (24, none), (25, none), (26, none), (28, none), (29, none), (30, none), (31, none), (32, none), (33, none), (27, none), (34, none), (35, none), (36, none), (37, none), (39, none), (40, none), (41, none), (42, none), (43, none), (44, none), (45, none), (38, none), (46, none), (47, none), (48, none), (49, none), (50, none), (52, none), (53, none), (54, none), (55, none), (56, none), (57, none), (58, none), (51, none), (59, none), (60, none), (61, none), (62, none), (63, none), (65, none), (66, none), (67, none), (68, none), (69, none), (70, none), (71, none), (64, none), (72, none), (73, none), (74, none), (75, none)] mixed (by kernel_rfl) (by kernel_rfl) (by kernel_rfl) (take1 at0 (take1 at0 take0)) <| w0 rfl rfl rfl (S0.move rfl) rfl <| w0 rfl rfl rfl (S0.move rfl) rfl <| w0 rfl rfl rfl (S0.nilCheck rfl) rfl <| w0 rfl rfl rfl (S0.fieldAddr rfl) rfl <| w0 rfl rfl rfl (S0.load rfl rfl) rfl <| ?_
  refine wc rfl rfl rfl rfl (S1.callF rfl (list_spec hc ho) (take1 at0 take0)) rfl ?_
  rintro u1 _ ⟨q1, hs1, rfl⟩
  refine wapp ?_
  refine wcd rfl rfl rfl rfl (S1.callF rfl (xequal_spec hs1 h1 (by omega)) (take1 at0 (take1 (atS (atS at0)) take0))) rfl ?_
  refine w0 rfl rfl rfl (S0.move rfl) rfl <| ?_
  refine wcsTh (t := 14) rfl ((by simp)) ?_
  refine w0 rfl rfl rfl (S0.move rfl) rfl <| w0 rfl rfl rfl (S0.move rfl) rfl <| w0 rfl rfl rfl (S0.nilCheck rfl) rfl <| w0 rfl rfl rfl (S0.fieldAddr rfl) rfl <| w0 rfl rfl rfl (S0.load rfl rfl) rfl <| ?_
  refine wc rfl rfl rfl rfl (S1.callF rfl (bmarks_spec hc ho) (take1 (atS (atS at0)) take0)) rfl ?_
  rintro u2 _ ⟨q2, hs2, rfl⟩
  refine wapp ?_
  refine wcd rfl rfl rfl rfl (S1.callF rfl (requal_spec hs2 h3 (by omega)) (take1 at0 (take1 (atS (atS (atS (atS (atS at0))))) take0))) rfl ?_
  refine w0 rfl rfl rfl (S0.pickT rfl rfl) rfl <| w0 rfl rfl rfl (S0.move rfl) rfl <| ?_
  refine wcsTh (t := 23) rfl ((by simp)) ?_
  refine w0 rfl rfl rfl (S0.move rfl) rfl <| w0 rfl rfl rfl (S0.move rfl) rfl <| w0 rfl rfl rfl (S0.nilCheck rfl) rfl <| w0 rfl rfl rfl (S0.fieldAddr rfl) rfl <| w0 rfl rfl rfl (S0.load rfl rfl) rfl <| ?_
  refine wcd rfl rfl rfl rfl (S1.callF rfl (count_spec hc) (take1 (atS (atS at0)) take0)) rfl ?_
  refine w0 rfl rfl rfl (S0.cmp rfl rfl rfl) rfl <| w0 rfl rfl rfl (S0.pickT rfl rfl) rfl <| w0 rfl rfl rfl (S0.move rfl) rfl <| ?_
  refine wcsTh (t := 32) rfl ((by simp)) ?_
  refine w0 rfl rfl rfl (S0.move rfl) rfl <| w0 rfl rfl rfl (S0.move rfl) rfl <| w0 rfl rfl rfl (S0.nilCheck rfl) rfl <| w0 rfl rfl rfl (S0.fieldAddr rfl) rfl <| w0 rfl rfl rfl (S0.load rfl rfl) rfl <| w0 rfl rfl rfl (S0.lenSl rfl) rfl <| w0 rfl rfl rfl (S0.ari rfl rfl rfl (wrap_i64 (by omega))) rfl <| ?_
  refine wcd rfl rfl rfl rfl (S1.callF rfl (room_spec hc ho) (take1 at0 take0)) rfl ?_
  refine w0 rfl rfl rfl (S0.cmp rfl rfl rfl) rfl <| w0 rfl rfl rfl (S0.pickT rfl rfl) rfl <| w0 rfl rfl rfl (S0.move rfl) rfl <| ?_
  refine wcsTh (t := 43) rfl ((by simp)) ?_
  refine w0 rfl rfl rfl (S0.move rfl) rfl <| w0 rfl rfl rfl (S0.move rfl) rfl <| w0 rfl rfl rfl (S0.nilCheck rfl) rfl <| w0 rfl rfl rfl (S0.fieldAddr rfl) rfl <| w0 rfl rfl rfl (S0.load rfl rfl) rfl <| w0 rfl rfl rfl (S0.nilCheck rfl) rfl <| w0 rfl rfl rfl (S0.fieldAddr rfl) rfl <| w0 rfl rfl rfl (S0.load rfl rfl) rfl <| ?_
  refine wcd rfl rfl rfl rfl (S1.callF rfl (dread_spec hd (f := 0) (by decide)) (take1 (atS (atS (atS (atS (atS at0))))) take0)) rfl ?_
  refine wcd rfl rfl rfl rfl (S1.callF rfl (rread_spec hrd hk hW (f := 0) (by decide)) (take1 (atS (atS (atS (atS (atS (atS (atS (atS at0)))))))) take0)) rfl ?_
  refine w0 rfl rfl rfl (S0.cmpS rfl rfl rfl) rfl <| w0 rfl rfl rfl (S0.pickT rfl rfl) rfl <| w0 rfl rfl rfl (S0.move rfl) rfl <| ?_
  refine wcsTh (t := 56) rfl ((by simp)) ?_
  refine w0 rfl rfl rfl (S0.move rfl) rfl <| w0 rfl rfl rfl (S0.move rfl) rfl <| w0 rfl rfl rfl (S0.nilCheck rfl) rfl <| w0 rfl rfl rfl (S0.fieldAddr rfl) rfl <| w0 rfl rfl rfl (S0.load rfl rfl) rfl <| w0 rfl rfl rfl (S0.nilCheck rfl) rfl <| w0 rfl rfl rfl (S0.fieldAddr rfl) rfl <| w0 rfl rfl rfl (S0.load rfl rfl) rfl <| ?_
  refine wcd rfl rfl rfl rfl (S1.callF rfl (dread_spec hd (f := 1) (by decide)) (take1 (atS at0) take0)) rfl ?_
  refine wcd rfl rfl rfl rfl (S1.callF rfl (rread_spec hrd hk hW (f := 1) (by decide)) (take1 (atS at0) take0)) rfl ?_
  refine w0 rfl rfl rfl (S0.cmpS rfl rfl rfl) rfl <| w0 rfl rfl rfl (S0.pickT rfl rfl) rfl <| w0 rfl rfl rfl (S0.move rfl) rfl <| ?_
  refine wcsTh (t := 69) rfl ((by simp)) ?_
  refine w0 rfl rfl rfl (S0.move rfl) rfl <| w0 rfl rfl rfl (S0.move rfl) rfl <| w0 rfl rfl rfl (S0.nilCheck rfl) rfl <| w0 rfl rfl rfl (S0.fieldAddr rfl) rfl <| w0 rfl rfl rfl (S0.load rfl rfl) rfl <| w0 rfl rfl rfl (S0.nilCheck rfl) rfl <| w0 rfl rfl rfl (S0.fieldAddr rfl) rfl <| w0 rfl rfl rfl (S0.load rfl rfl) rfl <| ?_
  refine wcd rfl rfl rfl rfl (S1.callF rfl (units_spec hd hk hW) (take1 (atS at0) take0)) rfl ?_
  refine wcd rfl rfl rfl rfl (S1.callF rfl (runits_spec hrd hk hW) (take1 (atS at0) take0)) rfl ?_
  refine w0 rfl rfl rfl (S0.cmp rfl rfl rfl) rfl <| w0 rfl rfl rfl (S0.pickT rfl rfl) rfl <| w0 rfl rfl rfl (S0.assign rfl) rfl <| wE <| WP.ret <| ?_
  refine Leaves.drop (h' := [cc, dc, rbB rk rl (.slice a1 (b.L.map (·.2)).length c1) v2 v3 (b.n : Int) :: (row1 ++ (row2 ++ row3)), rlB rl rb G.rd G.st lv G.sure :: lrow, rdc]) (k := [q1, q2]) (pm fun a_ => by (try simp only [List.flatten_append, List.flatten_cons, List.flatten_nil, List.append_nil, List.cons_append, List.nil_append, List.append_assoc, nOf_app, nOf_cons, nOf_nil, Nat.add_zero, Nat.zero_add, List.map_append, List.map_cons, List.map_nil, cel, sv]); first | done | omega) ?_
  refine r1 rfl rfl ⟨?_, rfl⟩
  simp
end Go.Proofs.YtjpjebfodhbdfaaGreatDoor
