import Derived.Test.YtanecnnfpdhadaaGreatDoorK5
import Derived.Test.YtanecnnfpdhadaaGreatDoorK2
import Derived.Test.YtanecnnfpdhadaaGreatDoorK1
import Derived.Test.YtanecnnfpdhadaaGreatDoorRows
import Derived.ChangeVars
import Derived.JoinedOf
import Derived.LaidLaws
import Derived.LaidHandle
import Derived.SizedLaws
set_option linter.unusedSimpArgs false
set_option linter.unusedVariables false
set_option linter.unnecessarySimpa false
/- Q7 -/
namespace Go.Proofs.YtanecnnfpdhadaaGreatDoor
open Go

theorem numD_bad1 {s : Str} {a top : Nat} (h : (getV s a).2.2 ≠ 0) : numD s a top = none := if_neg fun e => h e.1
theorem numD_bad2 {s : Str} {a top : Nat} (h : (top : Int) < (getV s a).1) : numD s a top = none := if_neg fun e => by have := e.2; omega
theorem numD_good {s : Str} {a top : Nat} (h0 : (getV s a).2.2 = 0) (h : ¬ (top : Int) < (getV s a).1) : ∃ n b : Nat, (getV s a).1 = (n : Int) ∧ (getV s a).2.1 = (b : Int) ∧ n ≤ top ∧ b ≤ s.length ∧ numD s a top = some (n, b) := by
  obtain ⟨n, k, hg, hn, hk, hak, -⟩ := getV_ok h0
  refine ⟨n, a + k, by rw [hg], by rw [hg], by rw [hg] at h; simp only at h; omega, hak, ?_⟩
  unfold numD
  rw [if_pos ⟨h0, by omega⟩, hg]
  simp only [Int.toNat_natCast]
theorem rload_spec {s : Str} (hs : s.length ≤ 900000) : FN Tryz.prog 24 [sv s] [] (fun u h => (∃ S rb c, loadD s = some S ∧ DevOk S ∧ IsRD rb S c ∧ u = .tuple ⟨[.pointer (some ⟨rb, 0, none⟩), .int .i64 0]⟩ ∧ h = [c]) ∨ (loadD s = none ∧ u = .tuple ⟨[.pointer none, .int .i64 4]⟩ ∧ h = [])) := by
  have hs2 : s.length ≤ 1000000 := by omega
  refine FN.intro 123 [(0, sv s)] Tryz.func24 rfl (enters Tryz.func24 (by kernel_rfl) rfl) Tryz.ntmps24 rfl rfl ?_
  refine WP.seq <| WP.region <| v0 (S0.assign rfl) rfl <| v0 (S0.assign rfl) rfl <| vE <| WP.seq <| WP.region <| v0 (S0.build rfl (qs := []) rfl) rfl <| vn (S1.box rfl rfl) rfl fun b24 => v0 (S0.assign rfl) rfl <| vE <| WP.seq <| WP.region <| v0 (S0.move rfl) rfl <| ?_  -- op t27 := call F57{rivulet/rivuletref01.Get}(t26, 0:i64)
  have hd0 : IsRD b24 [] [(b24, cel [.slice none 0 0] 29)] := ⟨[], ⟨.slice none 0 0, [], IsSl.nil, by simp, by simp [rblks]⟩, rfl⟩
  refine vcd (S1.callF rfl (rget_spec (s := s) (a := 0) hs2 (by omega)) take0) rfl ?_
  refine v0 (S0.move rfl) rfl <| v0 (S0.extract rfl rfl) rfl <| v0 (S0.extract rfl rfl) rfl <| v0 (S0.extract rfl rfl) rfl <| v0 (S0.assign rfl) rfl <| v0 (S0.assign rfl) rfl <| v0 (S0.assign rfl) rfl <| vE <| WP.seq <| WP.seq <| WP.region <| v0 (S0.move rfl) rfl <| v0 (S0.cmp rfl rfl rfl) rfl <| v0 (S0.move rfl) rfl <| ?_  -- guard t33 (wants False) at t34 := move t5 [if #2=False]
  first | refine csP (t := 33) rfl (fun g1 => ?_) (fun g1 => ?_) | refine csN (t := 33) rfl (fun g1 => ?_) (fun g1 => ?_) | refine cs (t := 33) rfl (fun g1 => ?_) (fun g1 => ?_)
  · skip
    refine gF rfl rfl <| gF rfl rfl <| v0 (S0.pickT rfl rfl) rfl <| vE <| WP.condT rfl <| WP.seq <| WP.region <| v0 (S0.assign rfl) rfl <| v0 (S0.assign rfl) rfl <| vE <| WP.ret <| ?_  -- ret
    refine Leaves.drop take0 ?_
    refine r2 rfl rfl rfl ?_
    exact .inr ⟨by unfold loadD; rw [numD_bad1 g1], rfl, rfl⟩
  · skip
    refine gT rfl <| v0 (S0.move rfl) rfl <| gT rfl <| v0 (S0.cmp rfl rfl rfl) rfl <| v0 (S0.pickF rfl rfl) rfl <| vE <| ?_  -- cond
    first | refine WP.condP rfl (fun g2 => ?_) (fun g2 => ?_) | refine WP.condN rfl (fun g2 => ?_) (fun g2 => ?_) | refine WP.cond rfl (fun g2 => ?_) (fun g2 => ?_)
    · skip
      refine WP.seq <| WP.region <| v0 (S0.assign rfl) rfl <| v0 (S0.assign rfl) rfl <| vE <| WP.ret <| ?_  -- ret
      refine Leaves.drop take0 ?_
      refine r2 rfl rfl rfl ?_
      exact .inr ⟨by unfold loadD; rw [numD_bad2 g2], rfl, rfl⟩
    · skip
      obtain ⟨many, a1, q1, q2, hmany, ha1, hn⟩ := numD_good g1 g2
      have er : loadD s = match readsD s many [] a1 with | none => none | some S => if saveD S = s then some S else none := by unfold loadD; rw [hn]; rfl
      rw [q1, q2]
      refine WP.skip <| WP.seq <| WP.seq <| WP.region <| v0 (S0.assign rfl) rfl <| vE <| WP.block <| ?_  -- Code.loop
      refine WP.loop (fun st : Nat × DS × List Blk × Nat => st.1 ≤ many ∧ IsRD b24 st.2.1 st.2.2.1 ∧ DevOk st.2.1 ∧ st.2.2.2 ≤ s.length ∧ readsD s many [] a1 = readsD s (many - st.1) st.2.1 st.2.2.2) (fun st : Nat × DS × List Blk × Nat => [(0, sv s), (4, .pointer (some ⟨b24, 0, none⟩)), (5, .int .u64 (many : Int)), (6, .int .i64 (st.2.2.2 : Int)), (8, .int .i64 (st.1 : Int))]) (fun st : Nat × DS × List Blk × Nat => [st.2.2.1]) (fun st : Nat × DS × List Blk × Nat => many - st.1) ((0, [], [(b24, cel [.slice none 0 0] 29)], a1)) (⟨Nat.zero_le _, hd0, DevOk.nil, ha1, rfl⟩) ⟨rfl, rfl, rfl, rfl, rfl, trivial⟩ ⟨_, (take1 at0 take0)⟩ (fun st hinv => ?_) 
      obtain ⟨j, SA, cA, aA⟩ := st
      obtain ⟨hj, hdA, hoA, haA, hrA⟩ := hinv
      dsimp only at hj hdA hoA haA hrA ⊢
      refine WP.seq <| WP.seq <| WP.region <| v0 (S0.move rfl) rfl <| v0 (S0.move rfl) rfl <| v0 (S0.convI rfl (wrap_i64 (by omega))) rfl <| v0 (S0.cmp rfl rfl rfl) rfl <| vE <| ?_  -- cond
      first | refine WP.condP rfl (fun h1 => ?_) (fun h1 => ?_) | refine WP.condN rfl (fun h1 => ?_) (fun h1 => ?_) | refine WP.cond rfl (fun h1 => ?_) (fun h1 => ?_)
      · skip
        have hlt : j < many := by omega
        rw [show many - j = (many - (j + 1)) + 1 by omega, readsD] at hrA
        have bad : readD s SA aA = none → loadD s = none := fun hb => by rw [er, hrA, hb]
        refine WP.skip <| WP.seq <| WP.block <| WP.seq <| WP.region <| v0 (S0.move rfl) rfl <| v0 (S0.move rfl) rfl <| ?_  -- op t46 := call F57{rivulet/rivuletref01.Get}(t44, t45)
        refine vcd (S1.callF rfl (rget_spec (s := s) (a := aA) hs2 (by omega)) take0) rfl ?_
        refine v0 (S0.move rfl) rfl <| v0 (S0.extract rfl rfl) rfl <| v0 (S0.extract rfl rfl) rfl <| v0 (S0.extract rfl rfl) rfl <| v0 (S0.assign rfl) rfl <| v0 (S0.assign rfl) rfl <| v0 (S0.assign rfl) rfl <| vE <| WP.seq <| WP.seq <| WP.region <| v0 (S0.move rfl) rfl <| v0 (S0.cmp rfl rfl rfl) rfl <| v0 (S0.move rfl) rfl <| ?_  -- guard t52 (wants False) at t53 := move t9 [if #2=False]
        first | refine csP (t := 52) rfl (fun g3 => ?_) (fun g3 => ?_) | refine csN (t := 52) rfl (fun g3 => ?_) (fun g3 => ?_) | refine cs (t := 52) rfl (fun g3 => ?_) (fun g3 => ?_)
        · skip
          refine gF rfl rfl <| gF rfl rfl <| v0 (S0.pickT rfl rfl) rfl <| v0 (S0.move rfl) rfl <| gF rfl rfl <| gF rfl rfl <| gF rfl rfl <| gF rfl rfl <| gF rfl rfl <| v0 (S0.pickT rfl rfl) rfl <| vE <| WP.condT rfl <| WP.seq <| WP.region <| v0 (S0.assign rfl) rfl <| v0 (S0.assign rfl) rfl <| vE <| WP.ret <| ?_  -- ret
          refine Leaves.drop take0 ?_
          refine r2 rfl rfl rfl ?_
          exact .inr ⟨bad (by unfold readD; rw [numD_bad1 g3]), rfl, rfl⟩
        · skip
          refine gT rfl <| v0 (S0.move rfl) rfl <| gT rfl <| v0 (S0.cmp rfl rfl rfl) rfl <| v0 (S0.pickF rfl rfl) rfl <| v0 (S0.move rfl) rfl <| ?_  -- guard t56 (wants False) at t57 := move t4 [if #6=False]
          first | refine csP (t := 56) rfl (fun g4 => ?_) (fun g4 => ?_) | refine csN (t := 56) rfl (fun g4 => ?_) (fun g4 => ?_) | refine cs (t := 56) rfl (fun g4 => ?_) (fun g4 => ?_)
          · skip
            refine gF rfl rfl <| gF rfl rfl <| gF rfl rfl <| gF rfl rfl <| gF rfl rfl <| v0 (S0.pickT rfl rfl) rfl <| vE <| WP.condT rfl <| WP.seq <| WP.region <| v0 (S0.assign rfl) rfl <| v0 (S0.assign rfl) rfl <| vE <| WP.ret <| ?_  -- ret
            refine Leaves.drop take0 ?_
            refine r2 rfl rfl rfl ?_
            exact .inr ⟨bad (by unfold readD; rw [numD_bad2 g4]), rfl, rfl⟩
          · skip
            obtain ⟨id, a2, q3, q4, hid, ha2, hn2⟩ := numD_good g3 g4
            have er2 : readD s SA aA = if (joinD SA id).1 = 0 then filtsD s id (joinD SA id).2 a2 else none := by unfold readD; rw [hn2]
            rw [q3, q4]
            refine gT rfl <| v0 (S0.move rfl) rfl <| gT rfl <| v0 (S0.move rfl) rfl <| gT rfl <| v0 (S0.convI rfl (wrap_i64 (by omega))) rfl <| ?_  -- op t60 := call F12{(*rivulet/rivuletref19.Devices).Join}(t57, t59) [if #6=False]
            refine gT rfl <| vc (S1.callF rfl (rjoin_spec hdA hoA.len (id : Int)) (take1 at0 take0)) rfl ?_
            rintro _ _ ⟨c1, hd1, rfl, rfl⟩
            refine app ?_
            refine gT rfl <| v0 (S0.cmp rfl rfl rfl) rfl <| v0 (S0.pickF rfl rfl) rfl <| vE <| ?_  -- cond
            first | refine WP.condP rfl (fun g5 => ?_) (fun g5 => ?_) | refine WP.condN rfl (fun g5 => ?_) (fun g5 => ?_) | refine WP.cond rfl (fun g5 => ?_) (fun g5 => ?_)
            · skip
              refine WP.seq <| WP.region <| v0 (S0.assign rfl) rfl <| v0 (S0.assign rfl) rfl <| vE <| WP.ret <| ?_  -- ret
              refine Leaves.drop take0 ?_
              refine r2 rfl rfl rfl ?_
              exact .inr ⟨bad (by rw [er2, if_neg (by simpa using g5)]), rfl, rfl⟩
            · skip
              have hj0 : (joinD SA id).1 = 0 := by simpa using g5
              rw [if_pos hj0] at er2
              have hjn : findD (joinD SA id).2 id = some ⟨id, [], []⟩ := by
                unfold joinD at hj0 ⊢
                by_cases h1 : (id : Int) < 0 ∨ 1099511627776 < (id : Int)
                · rw [if_pos h1] at hj0; cases hj0
                · rw [if_neg h1] at hj0 ⊢
                  by_cases h2 : (findD SA id).isSome = true
                  · rw [if_pos h2] at hj0; cases hj0
                  · rw [if_neg h2] at hj0 ⊢
                    by_cases h3 : 16 ≤ SA.length
                    · rw [if_pos h3] at hj0; cases hj0
                    · rw [if_neg h3]
                      show findD (insD SA ⟨id, [], []⟩) id = _
                      rw [find_ins (y := ⟨id, [], []⟩) (by simpa using h2)]; simp
              have ho1 := hoA.join (id : Int)
              generalize (joinD SA id).2 = SB at er2 hjn ho1 hd1
              refine WP.skip <| WP.seq <| WP.region <| v0 (S0.move rfl) rfl <| v0 (S0.move rfl) rfl <| ?_  -- op t66 := call F57{rivulet/rivuletref01.Get}(t64, t65)
              refine vcd (S1.callF rfl (rget_spec (s := s) (a := a2) hs2 (by omega)) take0) rfl ?_
              refine v0 (S0.move rfl) rfl <| v0 (S0.extract rfl rfl) rfl <| v0 (S0.extract rfl rfl) rfl <| v0 (S0.extract rfl rfl) rfl <| v0 (S0.assign rfl) rfl <| v0 (S0.assign rfl) rfl <| v0 (S0.assign rfl) rfl <| vE <| WP.seq <| WP.seq <| WP.region <| v0 (S0.move rfl) rfl <| v0 (S0.cmp rfl rfl rfl) rfl <| v0 (S0.move rfl) rfl <| ?_  -- guard t72 (wants False) at t73 := move t12 [if #2=False]
              first | refine csP (t := 72) rfl (fun g6 => ?_) (fun g6 => ?_) | refine csN (t := 72) rfl (fun g6 => ?_) (fun g6 => ?_) | refine cs (t := 72) rfl (fun g6 => ?_) (fun g6 => ?_)
              · skip
                refine gF rfl rfl <| gF rfl rfl <| v0 (S0.pickT rfl rfl) rfl <| vE <| WP.condT rfl <| WP.seq <| WP.region <| v0 (S0.assign rfl) rfl <| v0 (S0.assign rfl) rfl <| vE <| WP.ret <| ?_  -- ret
                refine Leaves.drop take0 ?_
                refine r2 rfl rfl rfl ?_
                exact .inr ⟨bad (by rw [er2]; unfold filtsD; rw [numD_bad1 g6]), rfl, rfl⟩
              · skip
                refine gT rfl <| v0 (S0.move rfl) rfl <| gT rfl <| v0 (S0.cmp rfl rfl rfl) rfl <| v0 (S0.pickF rfl rfl) rfl <| vE <| ?_  -- cond
                first | refine WP.condP rfl (fun g7 => ?_) (fun g7 => ?_) | refine WP.condN rfl (fun g7 => ?_) (fun g7 => ?_) | refine WP.cond rfl (fun g7 => ?_) (fun g7 => ?_)
                · skip
                  refine WP.seq <| WP.region <| v0 (S0.assign rfl) rfl <| v0 (S0.assign rfl) rfl <| vE <| WP.ret <| ?_  -- ret
                  refine Leaves.drop take0 ?_
                  refine r2 rfl rfl rfl ?_
                  exact .inr ⟨bad (by rw [er2]; unfold filtsD; rw [numD_bad2 g7]), rfl, rfl⟩
                · skip
                  obtain ⟨fn, a3, q5, q6, hfn, ha3, hn3⟩ := numD_good g6 g7
                  have er3 : readD s SA aA = match asksD s id fn SB a3 with | none => none | some (S2, a3) => marksD s id S2 a3 := by rw [er2]; unfold filtsD; rw [hn3]; rfl
                  clear er2
                  rw [q5, q6]
                  refine WP.skip <| WP.seq <| WP.seq <| WP.region <| v0 (S0.assign rfl) rfl <| vE <| WP.block <| ?_  -- Code.loop
                  refine WP.loop (fun st : Nat × DS × List Blk × Nat => st.1 ≤ fn ∧ IsRD b24 st.2.1 st.2.2.1 ∧ DevOk st.2.1 ∧ st.2.2.2 ≤ s.length ∧ (∃ F, findD st.2.1 id = some ⟨id, F, []⟩) ∧ asksD s id fn SB a3 = asksD s id (fn - st.1) st.2.1 st.2.2.2) (fun st : Nat × DS × List Blk × Nat => [(0, sv s), (4, .pointer (some ⟨b24, 0, none⟩)), (5, .int .u64 (many : Int)), (8, .int .i64 (j : Int)), (9, .int .u64 (id : Int)), (12, .int .u64 (fn : Int)), (13, .int .i64 (st.2.2.2 : Int)), (15, .int .i64 (st.1 : Int))]) (fun st : Nat × DS × List Blk × Nat => [st.2.2.1]) (fun st : Nat × DS × List Blk × Nat => fn - st.1) ((0, SB, c1, a3)) (⟨Nat.zero_le _, hd1, ho1, ha3, ⟨[], hjn⟩, rfl⟩) ⟨rfl, rfl, rfl, rfl, rfl, rfl, rfl, rfl, trivial⟩ ⟨_, (take1 at0 take0)⟩ (fun st hinv => ?_) 
                  obtain ⟨l, S2, c2, a4⟩ := st
                  obtain ⟨hl, hd2, ho2, ha4, ⟨F, hF⟩, has⟩ := hinv
                  dsimp only at hl hd2 ho2 ha4 hF has ⊢
                  refine WP.seq <| WP.seq <| WP.region <| v0 (S0.move rfl) rfl <| v0 (S0.move rfl) rfl <| v0 (S0.convI rfl (wrap_i64 (by omega))) rfl <| v0 (S0.cmp rfl rfl rfl) rfl <| vE <| ?_  -- cond
                  first | refine WP.condP rfl (fun h2 => ?_) (fun h2 => ?_) | refine WP.condN rfl (fun h2 => ?_) (fun h2 => ?_) | refine WP.cond rfl (fun h2 => ?_) (fun h2 => ?_)
                  · skip
                    have hlt2 : l < fn := by omega
                    rw [show fn - l = (fn - (l + 1)) + 1 by omega, asksD] at has
                    refine WP.skip <| WP.seq <| WP.block <| WP.seq <| WP.region <| v0 (S0.move rfl) rfl <| v0 (S0.move rfl) rfl <| ?_  -- op t85 := call F58{rivulet/rivuletref01.Cut}(t83, t84)
                    refine vcd (S1.callF rfl (rcut_spec (s := s) (a := a4) hs2 (by omega)) take0) rfl ?_
                    refine v0 (S0.move rfl) rfl <| v0 (S0.extract rfl rfl) rfl <| v0 (S0.extract rfl rfl) rfl <| v0 (S0.extract rfl rfl) rfl <| v0 (S0.assign rfl) rfl <| v0 (S0.assign rfl) rfl <| v0 (S0.assign rfl) rfl <| vE <| WP.seq <| WP.seq <| WP.region <| v0 (S0.move rfl) rfl <| v0 (S0.cmp rfl rfl rfl) rfl <| v0 (S0.move rfl) rfl <| ?_  -- guard t91 (wants False) at t92 := move t4 [if #2=False]
                    first | refine csP (t := 91) rfl (fun g8 => ?_) (fun g8 => ?_) | refine csN (t := 91) rfl (fun g8 => ?_) (fun g8 => ?_) | refine cs (t := 91) rfl (fun g8 => ?_) (fun g8 => ?_)
                    · skip
                      refine gF rfl rfl <| gF rfl rfl <| gF rfl rfl <| gF rfl rfl <| gF rfl rfl <| gF rfl rfl <| v0 (S0.pickT rfl rfl) rfl <| vE <| WP.condT rfl <| WP.seq <| WP.region <| v0 (S0.assign rfl) rfl <| v0 (S0.assign rfl) rfl <| vE <| WP.ret <| ?_  -- ret
                      refine Leaves.drop take0 ?_
                      refine r2 rfl rfl rfl ?_
                      exact .inr ⟨bad (by rw [er3, has, if_neg (fun e => g8 e.1)]), rfl, rfl⟩
                    · skip
                      have g9 : (cutV s a4).2.2 = 0 := g8
                      obtain ⟨hc1, hc2, hc3⟩ := cutV_le g9
                      generalize (cutV s a4).2.1.toNat = p at hc1 hc3 has
                      rw [hc3]
                      refine gT rfl <| v0 (S0.move rfl) rfl <| gT rfl <| v0 (S0.move rfl) rfl <| gT rfl <| v0 (S0.convI rfl (wrap_i64 (by omega))) rfl <| gT rfl <| v0 (S0.move rfl) rfl <| ?_  -- op t96 := call F16{(*rivulet/rivuletref19.Devices).Ask}(t92, t94, t95, true) [if #2=False]
                      refine gT rfl <| vc (S1.callF rfl (rask_spec hd2 ho2 (id : Int) (f := (cutV s a4).1) (by omega) true) (take1 at0 take0)) rfl ?_
                      rintro _ _ ⟨c3, hd3, rfl, rfl⟩
                      refine app ?_
                      have ho3 := ho2.ask (id : Int) (cutV s a4).1 true
                      refine gT rfl <| v0 (S0.cmp rfl rfl rfl) rfl <| v0 (S0.pickF rfl rfl) rfl <| vE <| ?_  -- cond
                      first | refine WP.condP rfl (fun g10 => ?_) (fun g10 => ?_) | refine WP.condN rfl (fun g10 => ?_) (fun g10 => ?_) | refine WP.cond rfl (fun g10 => ?_) (fun g10 => ?_)
                      · skip
                        refine WP.seq <| WP.region <| v0 (S0.assign rfl) rfl <| v0 (S0.assign rfl) rfl <| vE <| WP.ret <| ?_  -- ret
                        refine Leaves.drop take0 ?_
                        refine r2 rfl rfl rfl ?_
                        exact .inr ⟨bad (by rw [er3, has, if_neg (fun e => g10 e.2)]), rfl, rfl⟩
                      · skip
                        have hb0 : (askD S2 id (cutV s a4).1 true).1 = 0 := g10
                        rw [if_pos ⟨g9, hb0⟩] at has
                        have hF2 : ∃ F, findD (askD S2 id (cutV s a4).1 true).2 id = some ⟨id, F, []⟩ := by
                          unfold askD; rw [hF]
                          exact ⟨_, by rw [find_set (by simp only; rw [hF]; simp)]; simp; rfl⟩
                        refine WP.skip <| WP.region <| v0 (S0.move rfl) rfl <| v0 (S0.assign rfl) rfl <| vE <| WP.region <| v0 (S0.move rfl) rfl <| v0 (S0.ari rfl rfl rfl (wrap_i64 (by omega))) rfl <| v0 (S0.assign rfl) rfl <| vE <| ?_  -- roundend
                        exact ⟨(l + 1, (askD S2 id (cutV s a4).1 true).2, c3, p), (by first | exact ⟨hlt2, hd3, ho3, hc1, hF2, has⟩ | (dsimp only; exact ⟨hlt2, hd3, ho3, hc1, hF2, has⟩)), (show fn - (l + 1) < fn - l by omega), ⟨⟨rfl, rfl, rfl, rfl, rfl, rfl, rfl, rfl, trivial⟩, rfl, rfl⟩, ⟨_, (take1 at0 take0)⟩⟩
                  · skip
                    have hl2 : l = fn := by omega
                    subst hl2
                    rw [Nat.sub_self, asksD] at has
                    have er4 : readD s SA aA = marksD s id S2 a4 := by rw [er3, has]
                    clear er3
                    have hfn2 : findD S2 id ≠ none := by rw [hF]; simp
                    refine WP.exit <| WP.seq <| WP.region <| v0 (S0.move rfl) rfl <| v0 (S0.move rfl) rfl <| ?_  -- op t103 := call F59{rivulet/rivuletref06.Cut}(t101, t102)
                    refine vc (S1.callF rfl (rmcut_spec (s := s) (a := a4) hs2 ha4) take0) rfl ?_
                    rintro _ _ ⟨mv, mrow, rfl, hsM, rfl⟩
                    refine app ?_
                    refine v0 (S0.move rfl) rfl <| v0 (S0.extract rfl rfl) rfl <| v0 (S0.extract rfl rfl) rfl <| v0 (S0.extract rfl rfl) rfl <| v0 (S0.assign rfl) rfl <| v0 (S0.assign rfl) rfl <| v0 (S0.assign rfl) rfl <| vE <| WP.seq <| WP.seq <| WP.region <| v0 (S0.move rfl) rfl <| v0 (S0.cmp rfl rfl rfl) rfl <| vE <| ?_  -- cond
                    first | refine WP.condP rfl (fun g11 => ?_) (fun g11 => ?_) | refine WP.condN rfl (fun g11 => ?_) (fun g11 => ?_) | refine WP.cond rfl (fun g11 => ?_) (fun g11 => ?_)
                    · skip
                      refine WP.seq <| WP.region <| v0 (S0.assign rfl) rfl <| v0 (S0.assign rfl) rfl <| vE <| WP.ret <| ?_  -- ret
                      refine Leaves.drop take0 ?_
                      refine r2 rfl rfl rfl ?_
                      exact .inr ⟨bad (by rw [er4]; unfold marksD; rw [if_neg (by simpa using g11)]), rfl, rfl⟩
                    · skip
                      have hb0 : (cutM s a4).2.2 = 0 := by simpa using g11
                      obtain ⟨hp, hsort, hp3⟩ := cutM_le ha4 hb0
                      have er5 : readD s SA aA = some (setD S2 ⟨id, F, (cutM s a4).1⟩, (cutM s a4).2.1.toNat) := by
                        rw [er4]; unfold marksD setMs; rw [if_pos hb0, hF]
                      generalize (cutM s a4).1 = L at hsM hsort er5
                      generalize (cutM s a4).2.1.toNat = p at hp hp3 er5
                      rw [hp3]
                      have hoF := ho2.all _ (find_mem hF).1
                      have ho4 := ho2.set (y := ⟨id, F, L⟩) ⟨hoF.id, hoF.sF, hoF.fF, hoF.lF, hsort⟩
                      obtain ⟨Q, hRD, hQS⟩ := hd2
                      have hQl : Q.length = S2.length := by rw [← hQS, List.length_map]
                      have hSl := ho2.len
                      refine WP.skip <| WP.seq <| WP.region <| v0 (S0.move rfl) rfl <| v0 (S0.move rfl) rfl <| v0 (S0.convI rfl (wrap_i64 (by omega))) rfl <| ?_  -- op t112 := call F35{(*rivulet/rivuletref19.Devices).Find}(t109, t111)
                      refine vcd (S1.callF rfl (find_spec hRD (id : Int) (by omega)) (take1 (atS at0) take0)) rfl ?_
                      have hfq := findQ_D Q (id : Int)
                      rw [hQS, hF, Option.map_eq_some_iff] at hfq
                      obtain ⟨x, hfx, hxy⟩ := hfq
                      have hpq : ptrQ Q (id : Int) = x.ptr := by unfold ptrQ; rw [hfx]
                      rw [hpq]
                      obtain ⟨k, hx, -⟩ := findQ_at hfx
                      obtain ⟨v, row, hsv, hok, rfl⟩ := hRD
                      have hokx := hok x (List.mem_of_getElem? hx)
                      obtain ⟨C, hc1, hc2⟩ := rblks_at 76 hx
                      have hQasc : (Q.map (·.y)).Pairwise fun x y => x.i < y.i := by rw [hQS]; exact ho2.asc
                      obtain ⟨xb, xy, fv, frow, mv0, mrow0⟩ := x
                      dsimp only at hxy
                      subst hxy
                      unfold RO.ptr
                      refine WO.perm (h' := [[(b24, cel [v] 29)], row, [(xb, .cells ⟨[.int .i64 (id : Int), fv, mv0]⟩ 76 (0, 0))], frow, C, mrow]) (k := [mrow0]) (pm fun a_ => by have h0_ := pm_of (hc1) a_; (try simp only [List.flatten_append, List.flatten_cons, List.flatten_nil, List.append_nil, List.cons_append, List.nil_append, List.append_assoc, nOf_app, nOf_cons, nOf_nil, Nat.add_zero, Nat.zero_add, List.map_append, List.map_cons, List.map_nil, cel, sv, RO.blks] at h0_); (try simp only [List.flatten_append, List.flatten_cons, List.flatten_nil, List.append_nil, List.cons_append, List.nil_append, List.append_assoc, nOf_app, nOf_cons, nOf_nil, Nat.add_zero, Nat.zero_add, List.map_append, List.map_cons, List.map_nil, cel, sv, RO.blks]); first | done | omega) ?_
                      have hcv := hsM.cv
                      refine v0 (S0.assign rfl) rfl <| vE <| WP.seq <| WP.region <| v0 (S0.move rfl) rfl <| v0 (S0.move rfl) rfl <| v0 (S0.nilCheck rfl) rfl <| v0 (S0.fieldAddr rfl) rfl <| vs (S1.store rfl rfl (by first | rfl | exact IsSl.cv (by assumption))) <| vE <| WP.region <| v0 (S0.move rfl) rfl <| v0 (S0.assign rfl) rfl <| vE <| WP.region <| v0 (S0.move rfl) rfl <| v0 (S0.ari rfl rfl rfl (wrap_i64 (by omega))) rfl <| v0 (S0.assign rfl) rfl <| vE <| ?_  -- roundend
                      have hc4 := hc2 ⟨xb, ⟨id, F, L⟩, fv, frow, mv, mrow⟩
                      have hd5 : IsRD b24 (setD S2 ⟨id, F, L⟩) ((b24, cel [v] 29) :: (row ++ rblks 76 (Q.set k ⟨xb, ⟨id, F, L⟩, fv, frow, mv, mrow⟩))) := by
                        refine ⟨Q.set k ⟨xb, ⟨id, F, L⟩, fv, frow, mv, mrow⟩, ⟨v, row, by rw [ptrs_set (u := ⟨xb, ⟨id, F, L⟩, fv, frow, mv, mrow⟩) hx rfl]; exact hsv, fun z hz => ?_, rfl⟩, ?_⟩
                        · rcases List.mem_or_eq_of_mem_set hz with hz | rfl
                          · exact hok z hz
                          · exact ⟨hokx.fs, hsM⟩
                        · rw [setQ_D hx (by rfl) hQasc, hQS]
                      exact ⟨(j + 1, setD S2 ⟨id, F, L⟩, (b24, cel [v] 29) :: (row ++ rblks 76 (Q.set k ⟨xb, ⟨id, F, L⟩, fv, frow, mv, mrow⟩)), p), (by first | exact ⟨hlt, hd5, ho4, hp, by rw [hrA, er5]⟩ | (dsimp only; exact ⟨hlt, hd5, ho4, hp, by rw [hrA, er5]⟩)), (show many - (j + 1) < many - j by omega), ⟨⟨rfl, rfl, rfl, rfl, rfl, trivial⟩, rfl, rfl⟩, ⟨[], (pm fun a_ => by have h0_ := pm_of (hc4) a_; (try simp only [List.flatten_append, List.flatten_cons, List.flatten_nil, List.append_nil, List.cons_append, List.nil_append, List.append_assoc, nOf_app, nOf_cons, nOf_nil, Nat.add_zero, Nat.zero_add, List.map_append, List.map_cons, List.map_nil, cel, sv, RO.blks] at h0_); (try simp only [List.flatten_append, List.flatten_cons, List.flatten_nil, List.append_nil, List.cons_append, List.nil_append, List.append_assoc, nOf_app, nOf_cons, nOf_nil, Nat.add_zero, Nat.zero_add, List.map_append, List.map_cons, List.map_nil, cel, sv, RO.blks]); first | done | omega)⟩⟩
      · skip
        have hj2 : j = many := by omega
        subst hj2
        rw [Nat.sub_self, readsD] at hrA
        rw [hrA] at er
        refine WP.exit <| WP.seq <| WP.seq <| WP.region <| v0 (S0.move rfl) rfl <| ?_  -- op t119 := call F56{(*rivulet/rivuletref19.Devices).Save}(t118)
        refine vcd (S1.callF rfl (rsave_spec hdA hoA) (take1 at0 take0)) rfl ?_
        refine v0 (S0.move rfl) rfl <| v0 (S0.cmpS rfl rfl rfl) rfl <| vE <| ?_  -- cond
        first | refine WP.condP rfl (fun g12 => ?_) (fun g12 => ?_) | refine WP.condN rfl (fun g12 => ?_) (fun g12 => ?_) | refine WP.cond rfl (fun g12 => ?_) (fun g12 => ?_)
        · skip
          refine WP.seq <| WP.region <| v0 (S0.assign rfl) rfl <| v0 (S0.assign rfl) rfl <| vE <| WP.ret <| ?_  -- ret
          refine Leaves.drop take0 ?_
          refine r2 rfl rfl rfl ?_
          exact .inr ⟨by rw [er]; exact if_neg (by simpa using g12), rfl, rfl⟩
        · skip
          have hsv : saveD SA = s := by simpa using g12
          refine WP.skip <| WP.seq <| WP.region <| v0 (S0.move rfl) rfl <| v0 (S0.assign rfl) rfl <| v0 (S0.assign rfl) rfl <| vE <| WP.ret <| ?_  -- ret
          refine r2 rfl rfl rfl ?_
          exact .inl ⟨SA, b24, cA, by rw [er]; exact if_pos hsv, hoA, hdA, rfl, rfl⟩
end Go.Proofs.YtanecnnfpdhadaaGreatDoor
/- IntsR -/
namespace Go.Proofs.YtanecnnfpdhadaaGreatDoor
open Go

theorem ints_spec {v1 v2 : Value} {q1 q2 : List Blk} {a b : List Int} (h1 : IsSl 3 1 v1 (ints a) q1) (h2 : IsSl 3 1 v2 (ints b) q2) (ha : a.length ≤ 1000000000) : FN Tryz.prog 17 [v1, v2] [q1, q2] (is (.bool (decide (a = b))) [q1, q2]) := by
  obtain ⟨a1, c1, rfl, hc1, hr1⟩ := h1.intsE
  obtain ⟨a2, c2, rfl, hc2, hr2⟩ := h2.intsE
  refine FN.intro 26 [(0, .slice a1 a.length c1), (1, .slice a2 b.length c2)] Tryz.func17 rfl (enters Tryz.func17 (by kernel_rfl) rfl) Tryz.ntmps17 rfl rfl ?_
  refine WP.seq <| WP.region <| v0 (S0.assign rfl) rfl <| vE <| WP.seq <| WP.seq <| WP.region <| v0 (S0.move rfl) rfl <| v0 (S0.lenSl rfl) rfl <| v0 (S0.move rfl) rfl <| v0 (S0.lenSl rfl) rfl <| v0 (S0.cmp rfl rfl rfl) rfl <| vE <| ?_  -- cond
  first | refine WP.condP rfl (fun hl => ?_) (fun hl => ?_) | refine WP.condN rfl (fun hl => ?_) (fun hl => ?_) | refine WP.cond rfl (fun hl => ?_) (fun hl => ?_)
  · skip
    refine WP.seq <| WP.region <| v0 (S0.assign rfl) rfl <| vE <| WP.ret <| ?_  -- ret
    refine r1 rfl rfl ⟨?_, rfl⟩
    have : a ≠ b := fun e => hl (by rw [e])
    simp [this]
  · skip
    refine WP.skip <| WP.seq <| WP.seq <| WP.region <| v0 (S0.assign rfl) rfl <| vE <| WP.block <| ?_  -- Code.loop
    refine WP.loop (fun i : Nat => i ≤ a.length ∧ a.take i = b.take i) (fun i : Nat => [(0, .slice a1 a.length c1), (1, .slice a2 b.length c2), (5, .int .i64 (i : Int))]) (fun i : Nat => [q1, q2]) (fun i : Nat => a.length - i) (0) (⟨by omega, rfl⟩) ⟨rfl, rfl, rfl, trivial⟩ ⟨_, (take1 at0 (take1 at0 take0))⟩ (fun i hinv => ?_) 
    obtain ⟨hi, htk⟩ := hinv
    refine WP.seq <| WP.seq <| WP.region <| v0 (S0.move rfl) rfl <| v0 (S0.move rfl) rfl <| v0 (S0.lenSl rfl) rfl <| v0 (S0.cmp rfl rfl rfl) rfl <| vE <| ?_  -- cond
    first | refine WP.condP rfl (fun h3 => ?_) (fun h3 => ?_) | refine WP.condN rfl (fun h3 => ?_) (fun h3 => ?_) | refine WP.cond rfl (fun h3 => ?_) (fun h3 => ?_)
    · skip
      have hlt : i < a.length := by omega
      have hlt2 : i < b.length := by omega
      rcases hr1 with ⟨rfl, -⟩ | ⟨b1, sp1, rfl, rfl, hsp1⟩
      · simp at hlt
      rcases hr2 with ⟨rfl, -⟩ | ⟨b2, sp2, rfl, rfl, hsp2⟩
      · simp at hlt2
      have hx : a[i]? = some a[i] := by simp [hlt]
      have hy : b[i]? = some b[i] := by simp [hlt2]
      skip
      refine WP.skip <| WP.seq <| WP.block <| WP.seq <| WP.drawP [(0, none), (1, none), (2, none), (3, none), (4, none), (5, none), (6, none), (7, none), (8, none)] mixed (by kernel_rfl) (by kernel_rfl) (by kernel_rfl) (take1 at0 (take1 at0 take0)) <| w0 rfl rfl rfl (S0.move rfl) rfl <| w0 rfl rfl rfl (S0.move rfl) rfl <| ?_  -- op t19 := indexAddr 38 t17 t18
      refine w0 rfl rfl rfl (S0.index1 rfl rfl hlt) rfl <| ?_
      refine w0 rfl rfl rfl (S0.load rfl (ints_get hx)) rfl <| ?_
      refine w0 rfl rfl rfl (S0.move rfl) rfl <| w0 rfl rfl rfl (S0.move rfl) rfl <| ?_  -- op t23 := indexAddr 38 t21 t22
      refine w0 rfl rfl rfl (S0.index1 rfl rfl hlt2) rfl <| ?_
      refine w0 rfl rfl rfl (S0.load rfl (ints_get hy)) rfl <| ?_
      refine w0 rfl rfl rfl (S0.cmp rfl rfl rfl) rfl <| wE <| ?_  -- cond
      first | refine WP.condP rfl (fun h4 => ?_) (fun h4 => ?_) | refine WP.condN rfl (fun h4 => ?_) (fun h4 => ?_) | refine WP.cond rfl (fun h4 => ?_) (fun h4 => ?_)
      · skip
        refine WP.seq <| WP.region <| v0 (S0.assign rfl) rfl <| vE <| WP.ret <| ?_  -- ret
        refine r1 rfl rfl ⟨?_, rfl⟩
        have : a ≠ b := fun e => h4 (by subst e; rfl)
        simp [this]
      · skip
        refine WP.skip <| WP.region <| v0 (S0.move rfl) rfl <| v0 (S0.ari rfl rfl rfl (wrap_i64 (by omega))) rfl <| v0 (S0.assign rfl) rfl <| vE <| ?_  -- roundend
        exact ⟨i + 1, (by first | exact ⟨hlt, by rw [List.take_add_one, List.take_add_one, hx, hy, htk]; congr 2; simpa using h4⟩ | (dsimp only; exact ⟨hlt, by rw [List.take_add_one, List.take_add_one, hx, hy, htk]; congr 2; simpa using h4⟩)), (by omega), ⟨⟨rfl, rfl, rfl, trivial⟩, rfl, rfl⟩, ⟨_, (take1 at0 (take1 at0 take0))⟩⟩
    · skip
      refine WP.exit <| WP.seq <| WP.region <| v0 (S0.assign rfl) rfl <| vE <| WP.ret <| ?_  -- ret
      refine r1 rfl rfl ⟨?_, rfl⟩
      have : a = b := by
        rw [List.take_of_length_le (by omega), List.take_of_length_le (by omega)] at htk
        exact htk
      simp [this]
end Go.Proofs.YtanecnnfpdhadaaGreatDoor
/- L1 -/
namespace Go.Proofs.YtanecnnfpdhadaaGreatDoor
open Go

/-- a call: which, who, a filter, on or off, an event -/
structure OpD where
  k : Int
  i : Int
  f : Str
  on : Bool
  e : Ev
abbrev enO (x : OpD) : List Value := [.int .i64 x.k, .int .i64 x.i, sv x.f, .bool x.on, .int .i64 x.e.o, .int .i64 x.e.s, sv x.e.t, sv x.e.l, .int .i64 x.e.e]
theorem enO_len (x : OpD) : (enO x).length = 8 + 1 := rfl
theorem enO_cv (x : OpD) : (enO x).all cellV = true := rfl
abbrev opK : List CK := [.i .i64, .i .i64, .s, .b, .i .i64, .i .i64, .s, .s, .i .i64]
theorem argOps {W : World} {v : Value} (h : ArgF W opK v) : ∃ l : List OpD, Rd 9 enO v l (whole W) := by
  obtain ⟨a, len, cap, rfl, hc, h⟩ := h
  rcases h with rfl | ⟨b, o, L, U, fz, rfl, hm, hf⟩
  · exact ⟨[], ⟨a, cap, rfl, hc, .inl rfl⟩⟩
  · obtain ⟨l, h1, -, h3⟩ := choose_elems (k := 9) (en := enO) (Q := fun _ => True) (L := L) (o := o) (len := len) fun i hi => by
      have hf := hf i hi
      obtain ⟨_, e0, n0, rfl, -⟩ := hf 0 _ rfl
      obtain ⟨_, e1, n1, rfl, -⟩ := hf 1 _ rfl
      obtain ⟨_, e2, n2, rfl, -⟩ := hf 2 _ rfl
      obtain ⟨_, e3, n3, rfl⟩ := hf 3 _ rfl
      obtain ⟨_, e4, n4, rfl, -⟩ := hf 4 _ rfl
      obtain ⟨_, e5, n5, rfl, -⟩ := hf 5 _ rfl
      obtain ⟨_, e6, n6, rfl, -⟩ := hf 6 _ rfl
      obtain ⟨_, e7, n7, rfl, -⟩ := hf 7 _ rfl
      obtain ⟨_, e8, n8, rfl, -⟩ := hf 8 _ rfl
      refine ⟨⟨n0, n1, n2, n3, ⟨n4, n5, n6, n7, n8⟩⟩, trivial, take_cells (enO ⟨n0, n1, n2, n3, ⟨n4, n5, n6, n7, n8⟩⟩) _ fun j x hj => ?_⟩
      match j, hj with
      | 0, hj => cases hj; exact e0
      | 1, hj => cases hj; exact e1
      | 2, hj => cases hj; exact e2
      | 3, hj => cases hj; exact e3
      | 4, hj => cases hj; exact e4
      | 5, hj => cases hj; exact e5
      | 6, hj => cases hj; exact e6
      | 7, hj => cases hj; exact e7
      | 8, hj => cases hj; exact e8
    subst h1
    exact ⟨l, ⟨_, cap, rfl, hc, .inr ⟨b, o, L, U, fz, rfl, whole_mem.2 hm, h3⟩⟩⟩
def cutO (x : OpD) : OpD := ⟨x.k, x.i, x.f.take 120, x.on, ⟨x.e.o, x.e.s, x.e.t.take 120, x.e.l.take 120, x.e.e⟩⟩
def cutOs (l : List OpD) : List OpD := (l.take 80).map cutO
theorem cutOs_len (l : List OpD) : (cutOs l).length ≤ 80 := by simp [cutOs]; omega
theorem cutOs_mem {l : List OpD} : ∀ x ∈ cutOs l, x.f.length ≤ 120 ∧ x.e.t.length ≤ 120 ∧ x.e.l.length ≤ 120 := fun x hx => by
  obtain ⟨y, -, rfl⟩ := List.mem_map.1 hx
  simp only [cutO, List.length_take]
  omega
theorem min120 (n : Nat) : (if (120 : Int) < (n : Int) then 120 else (n : Int)) = ((min n 120 : Nat) : Int) := by split <;> omega
theorem take_min120 (l : Str) : (l.drop 0).take (min l.length 120 - 0) = l.take 120 := by
  rw [List.drop_zero, Nat.sub_zero]
  rcases Nat.le_total l.length 120 with h | h
  · rw [Nat.min_eq_left h, List.take_length, List.take_of_length_le h]
  · rw [Nat.min_eq_right h]
theorem take_one {α : Type} {l : List α} {i : Nat} {x : α} (h : l[i]? = some x) : l.take (i + 1) = l.take i ++ [x] := by rw [List.take_add_one, h]; rfl
theorem cut_spec {v : Value} {l : List OpD} {c : List Blk} (hr : Rd 9 enO v l c) : FN Tryz.prog 9 [v] [c] (fun u h => ∃ row, IsSl 33 9 u ((cutOs l).flatMap enO) row ∧ h = [row, c]) := by
  obtain ⟨a, cap, rfl, -, hr⟩ := hr
  refine FN.intro 56 [(0, .slice a l.length cap)] Tryz.func9 rfl (enters Tryz.func9 (by kernel_rfl) rfl) Tryz.ntmps9 rfl rfl ?_
  refine WP.seq <| WP.region <| v0 (S0.assign rfl) rfl <| vE <| WP.seq <| WP.region <| vnv (S1.buildSlice rfl (qs := []) rfl rfl) rfl fun b6 => v0 (S0.assign rfl) rfl <| vE <| WP.seq <| WP.seq <| WP.region <| v0 (S0.assign rfl) rfl <| vE <| WP.block <| ?_  -- Code.loop
  refine WP.loop (fun st : Nat × Value × List Blk => st.1 ≤ l.length ∧ st.1 ≤ 80 ∧ IsSl 33 9 st.2.1 (((l.take st.1).map cutO).flatMap enO) st.2.2) (fun st : Nat × Value × List Blk => [(0, .slice a l.length cap), (3, st.2.1), (4, .int .i64 (st.1 : Int))]) (fun st : Nat × Value × List Blk => [st.2.2, c]) (fun st : Nat × Value × List Blk => l.length - st.1) ((0, _, [(b6, .cells ⟨[]⟩ 33 (0, 0))])) (⟨Nat.zero_le _, Nat.zero_le _, IsSl.row (n := 0) (c := 0) (l := []) (sp := []) rfl rfl (Nat.le_refl _)⟩) ⟨rfl, rfl, rfl, trivial⟩ ⟨_, (take1 at0 (take1 at0 take0))⟩ (fun st hinv => ?_) 
  obtain ⟨i, ov, orow⟩ := st
  obtain ⟨hi, hi2, hosl⟩ := hinv
  dsimp only at hi hi2 hosl ⊢
  refine WP.seq <| WP.seq <| WP.region <| v0 (S0.move rfl) rfl <| v0 (S0.move rfl) rfl <| v0 (S0.lenSl rfl) rfl <| v0 (S0.cmp rfl rfl rfl) rfl <| v0 (S0.move rfl) rfl <| ?_  -- guard t11 (wants True) at t12 := move t4 [if #4=True]
  first | refine csP (t := 11) rfl (fun h1 => ?_) (fun h1 => ?_) | refine csN (t := 11) rfl (fun h1 => ?_) (fun h1 => ?_) | refine cs (t := 11) rfl (fun h1 => ?_) (fun h1 => ?_)
  · skip
    have hlt : i < l.length := by omega
    rcases hr with e | ⟨b, o, GL, U, fz, rfl, hmem, hel⟩
    · rw [e] at hlt; simp at hlt
    have : HasC c b (.cells ⟨GL⟩ U fz) := ⟨hmem⟩
    have hx : l[i]? = some l[i] := by simp [hlt]
    generalize l[i] = x at hx
    obtain ⟨x0, x1, x2, x3, ⟨x4, x5, x6, x7, x8⟩⟩ := x
    have hele : (GL.drop (o + i * 9)).take 9 = [.int .i64 x0, .int .i64 x1, sv x2, .bool x3, .int .i64 x4, .int .i64 x5, sv x6, sv x7, .int .i64 x8] := hel i _ hx
    have htk := take_one hx
    refine gT rfl <| v0 (S0.move rfl) rfl <| gT rfl <| v0 (S0.cmp rfl rfl rfl) rfl <| v0 (S0.pickT rfl rfl) rfl <| vE <| ?_  -- cond
    first | refine WP.condP rfl (fun h2 => ?_) (fun h2 => ?_) | refine WP.condN rfl (fun h2 => ?_) (fun h2 => ?_) | refine WP.cond rfl (fun h2 => ?_) (fun h2 => ?_)
    · skip
      refine WP.skip <| WP.seq <| WP.block <| WP.seq <| WP.region <| v0 (S0.move rfl) rfl <| v0 (S0.move rfl) rfl <| ?_  -- op t19 := indexAddr 22 t17 t18
      refine v0 (S0.indexO (k := 9) rfl rfl hlt) rfl <| ?_
      refine v0 (S0.loadA rfl hele rfl) rfl <| ?_
      refine vn (S1.alloc) rfl fun b5 => vs (S1.storeA rfl rfl rfl) <| vE <| WP.seq <| WP.region <| v0 (S0.fieldAddr rfl) rfl <| v0 (S0.load rfl rfl) rfl <| v0 (S0.fieldAddr rfl) rfl <| v0 (S0.load rfl rfl) rfl <| v0 (S0.lenSt rfl) rfl <| v0 (S0.min2 rfl rfl rfl) rfl <| ?_  -- op t27 := slice 9 t22 none t26 none
      rw [min120]
      refine v0 (S0.sliceSt (i := 0) (j := min x2.length 120) rfl rfl rfl ⟨Nat.zero_le _, by omega⟩) rfl <| ?_
      rw [take_min120]
      refine v0 (S0.fieldAddr rfl) rfl <| vs (S1.store rfl rfl (by first | rfl | exact IsSl.cv (by assumption))) <| vE <| WP.seq <| WP.region <| v0 (S0.fieldAddr rfl) rfl <| v0 (S0.fieldAddr rfl) rfl <| v0 (S0.load rfl rfl) rfl <| v0 (S0.fieldAddr rfl) rfl <| v0 (S0.fieldAddr rfl) rfl <| v0 (S0.load rfl rfl) rfl <| v0 (S0.lenSt rfl) rfl <| v0 (S0.min2 rfl rfl rfl) rfl <| ?_  -- op t37 := slice 9 t31 none t36 none
      rw [min120]
      refine v0 (S0.sliceSt (i := 0) (j := min x6.length 120) rfl rfl rfl ⟨Nat.zero_le _, by omega⟩) rfl <| ?_
      rw [take_min120]
      refine v0 (S0.fieldAddr rfl) rfl <| v0 (S0.fieldAddr rfl) rfl <| vs (S1.store rfl rfl (by first | rfl | exact IsSl.cv (by assumption))) <| vE <| WP.seq <| WP.region <| v0 (S0.fieldAddr rfl) rfl <| v0 (S0.fieldAddr rfl) rfl <| v0 (S0.load rfl rfl) rfl <| v0 (S0.fieldAddr rfl) rfl <| v0 (S0.fieldAddr rfl) rfl <| v0 (S0.load rfl rfl) rfl <| v0 (S0.lenSt rfl) rfl <| v0 (S0.min2 rfl rfl rfl) rfl <| ?_  -- op t48 := slice 9 t42 none t47 none
      rw [min120]
      refine v0 (S0.sliceSt (i := 0) (j := min x7.length 120) rfl rfl rfl ⟨Nat.zero_le _, by omega⟩) rfl <| ?_
      rw [take_min120]
      refine v0 (S0.fieldAddr rfl) rfl <| v0 (S0.fieldAddr rfl) rfl <| vs (S1.store rfl rfl (by first | rfl | exact IsSl.cv (by assumption))) <| vE <| WP.region <| v0 (S0.move rfl) rfl <| v0 (S0.loadAL rfl) rfl <| vnv (S1.buildSlice rfl (qs := [(0, _)]) rfl rfl) rfl fun b53 => ?_  -- op t54 := append(t51, t53) :[22, 22]
      refine ve (S1.appendL rfl hosl rfl rfl (atS (atS at0)) rfl rfl (by rw [flat_len enO_len]; simp; omega)) rfl ?_
      rintro v2 _ ⟨row2, hsl2, rfl⟩
      have hsl3 : IsSl 33 9 v2 (((l.take (i + 1)).map cutO).flatMap enO) row2 := by
        rw [htk, List.map_append, List.flatMap_append]
        simpa [cutO] using hsl2
      refine v0 (S0.assign rfl) rfl <| vE <| WP.region <| v0 (S0.move rfl) rfl <| v0 (S0.ari rfl rfl rfl (wrap_i64 (by omega))) rfl <| v0 (S0.assign rfl) rfl <| vE <| ?_  -- roundend
      exact ⟨(i + 1, v2, row2), (by first | exact ⟨hlt, by omega, hsl3⟩ | (dsimp only; exact ⟨hlt, by omega, hsl3⟩)), (show l.length - (i + 1) < l.length - i by omega), ⟨⟨rfl, rfl, rfl, trivial⟩, rfl, rfl⟩, ⟨_, (take1 at0 (take1 (atS (atS at0)) take0))⟩⟩
    · skip
      refine WP.exit <| WP.seq <| WP.region <| v0 (S0.move rfl) rfl <| v0 (S0.assign rfl) rfl <| vE <| WP.ret <| ?_  -- ret
      refine r1 rfl rfl ?_
      exact ⟨orow, by rw [cutOs, ← show i = 80 by omega]; exact hosl, rfl⟩
  · skip
    refine gF rfl rfl <| gF rfl rfl <| v0 (S0.pickF rfl rfl) rfl <| vE <| WP.condF rfl <| WP.exit <| WP.seq <| WP.region <| v0 (S0.move rfl) rfl <| v0 (S0.assign rfl) rfl <| vE <| WP.ret <| ?_  -- ret
    refine r1 rfl rfl ?_
    exact ⟨orow, by rw [cutOs, List.take_of_length_le (by omega)]; rw [List.take_of_length_le (by omega)] at hosl; exact hosl, rfl⟩
end Go.Proofs.YtanecnnfpdhadaaGreatDoor
/- L2 -/
namespace Go.Proofs.YtanecnnfpdhadaaGreatDoor
open Go

theorem sameD_spec {db rb : Nat} {S : DS} {c rc : List Blk} (hd : IsDev db S c) (hr : IsRD rb S rc) (ho : DevOk S) :
    FN Tryz.prog 22 [.pointer (some ⟨db, 0, none⟩), .pointer (some ⟨rb, 0, none⟩)] [c, rc] (is (.bool true) [c, rc]) := by
  have hSl := ho.len
  have hr0 := hr
  obtain ⟨Q, ⟨v, row, hs, hok, hrc⟩, hQS⟩ := hr
  have hQl : Q.length = S.length := by rw [← hQS, List.length_map]
  obtain ⟨a, cap, rfl, hcap, hrow⟩ := hs.ptrsE
  have i1 : HasC rc rb (cel [.slice a Q.length cap] 29) := ⟨by rw [hrc]; simp⟩
  refine FN.intro 78 [(0, .pointer (some ⟨db, 0, none⟩)), (1, .pointer (some ⟨rb, 0, none⟩))] Tryz.func22 rfl (enters Tryz.func22 (by kernel_rfl) rfl) Tryz.ntmps22 rfl rfl ?_
  refine WP.seq <| WP.region <| v0 (S0.assign rfl) rfl <| vE <| WP.seq <| WP.seq <| WP.region <| v0 (S0.move rfl) rfl <| ?_  -- op t7 := call F33{(*rivulet/device.Devices).Ids}(t6)
  refine vc (S1.callF rfl (ids_spec hd ho) (take1 at0 take0)) rfl ?_
  rintro v1 _ ⟨q1, hs1, rfl⟩
  refine app ?_
  refine v0 (S0.move rfl) rfl <| ?_  -- op t9 := call F55{(*rivulet/rivuletref19.Devices).Ids}(t8)
  refine vc (S1.callF rfl (rids_spec hr0 (by omega)) (take1 (atS (atS at0)) take0)) rfl ?_
  rintro v2 _ ⟨q2, hs2, rfl⟩
  refine app ?_
  -- (nothing to walk: op t10 := call F17{rivulet/rivuletref04.Ints}(t7, t9))
  refine vcd (S1.callF rfl (ints_spec hs1 hs2 (by rw [List.length_map]; omega)) (take1 (atS (atS at0)) (take1 at0 take0))) rfl ?_
  refine v0 (S0.not rfl) rfl <| v0 (S0.move rfl) rfl <| ?_  -- guard t12 (wants False) at t13 := move t0 [if #6=False]
  refine csFh (t := 12) rfl ((by simp)) ?_
  refine gT rfl <| v0 (S0.move rfl) rfl <| ?_  -- op t14 := call F21{(*rivulet/device.Devices).Save}(t13) [if #6=False]
  refine gT rfl <| vcd (S1.callF rfl (save_spec hd ho) (take1 (atS (atS (atS at0))) take0)) rfl ?_
  refine gT rfl <| v0 (S0.move rfl) rfl <| ?_  -- op t16 := call F56{(*rivulet/rivuletref19.Devices).Save}(t15) [if #6=False]
  refine gT rfl <| vcd (S1.callF rfl (rsave_spec hr0 ho) (take1 (atS (atS (atS at0))) take0)) rfl ?_
  refine gT rfl <| v0 (S0.cmpS rfl rfl rfl) rfl <| v0 (S0.pickF rfl rfl) rfl <| vE <| ?_  -- cond
  refine WP.condFh rfl ((by simp)) ?_
  refine WP.skip <| WP.seq <| WP.seq <| WP.region <| v0 (S0.assign rfl) rfl <| vE <| WP.block <| ?_  -- Code.loop
  refine WP.loop (fun k : Nat => k ≤ Q.length) (fun k : Nat => [(0, .pointer (some ⟨db, 0, none⟩)), (1, .pointer (some ⟨rb, 0, none⟩)), (5, .int .i64 (k : Int))]) (fun k : Nat => [c, rc]) (fun k : Nat => Q.length - k) (0) (Nat.zero_le _) ⟨rfl, rfl, rfl, trivial⟩ ⟨_, (take1 (atS at0) (take1 at0 take0))⟩ (fun k hinv => ?_) 
  refine WP.seq <| WP.seq <| WP.region <| v0 (S0.move rfl) rfl <| v0 (S0.move rfl) rfl <| v0 (S0.nilCheck rfl) rfl <| v0 (S0.fieldAddr rfl) rfl <| v0 (S0.load rfl rfl) rfl <| v0 (S0.lenSl rfl) rfl <| v0 (S0.cmp rfl rfl rfl) rfl <| vE <| ?_  -- cond
  first | refine WP.condP rfl (fun h1 => ?_) (fun h1 => ?_) | refine WP.condN rfl (fun h1 => ?_) (fun h1 => ?_) | refine WP.cond rfl (fun h1 => ?_) (fun h1 => ?_)
  · skip
    have hlt : k < Q.length := by omega
    have hx : Q[k]? = some Q[k] := by simp [hlt]
    generalize Q[k] = x at hx
    have hyS : x.y ∈ S := by rw [← hQS]; exact List.mem_map.2 ⟨x, List.mem_of_getElem? hx, rfl⟩
    have hoy := ho.all _ hyS
    have hfy := find_of ho.asc hyS
    obtain ⟨hfs, hms⟩ := hok x (List.mem_of_getElem? hx)
    obtain ⟨C, hc1, -⟩ := rblks_at 76 hx
    obtain ⟨xb, y, fv, frow, mv, mrow⟩ := x
    dsimp only at hfs hms hoy hfy hyS
    have hgf : fltD S y.i = y.F := by unfold fltD; rw [hfy]
    have hgm : mrkD S y.i = y.M := by unfold mrkD; rw [hfy]
    have hlF := hoy.lF
    obtain ⟨-, -, hlM⟩ := sortedM_iff.1 hoy.ms
    have hpx : (ptrs Q)[k]? = some (.pointer (some ⟨xb, 0, none⟩)) := by simp [hx, RO.ptr]
    rcases hrow with ⟨e1, -⟩ | ⟨b1, sp1, rfl, rfl, hsp1⟩
    · rw [e1] at hlt; simp at hlt
    have hgx : (ptrs Q ++ sp1)[k]? = some (.pointer (some ⟨xb, 0, none⟩)) := by
      rw [List.getElem?_append_left (by rw [ptrs_len]; omega)]; exact hpx
    refine WP.perm (h' := [c, [(rb, cel [.slice (some ⟨b1, 0, none⟩) Q.length cap] 29)], [(b1, .cells ⟨ptrs Q ++ sp1⟩ 73 (0, 0))], [(xb, .cells ⟨[.int .i64 y.i, fv, mv]⟩ 76 (0, 0))], frow, mrow, C]) (k := []) (by rw [hrc]; exact (pm fun a_ => by have h0_ := pm_of (hc1) a_; (try simp only [List.flatten_append, List.flatten_cons, List.flatten_nil, List.append_nil, List.cons_append, List.nil_append, List.append_assoc, nOf_app, nOf_cons, nOf_nil, Nat.add_zero, Nat.zero_add, List.map_append, List.map_cons, List.map_nil, cel, sv, RO.blks] at h0_); (try simp only [List.flatten_append, List.flatten_cons, List.flatten_nil, List.append_nil, List.cons_append, List.nil_append, List.append_assoc, nOf_app, nOf_cons, nOf_nil, Nat.add_zero, Nat.zero_add, List.map_append, List.map_cons, List.map_nil, cel, sv, RO.blks]); first | done | omega)) ?_
    skip
    refine WP.skip <| WP.seq <| WP.block <| WP.seq <| WP.drawP [(0, none), (1, none), (2, none), (3, none), (4, none), (5, none), (6, none), (7, none), (8, none), (9, none), (10, none), (12, none), (13, none), (14, none), (15, none), (16, none), (17, none), (18, none), (19, none), (20, none), (21, none), (11, none), (22, none), (23, none), (24, none), (25, none), (26, none), (27, none), (28, none), (29, none), (30, none), (31, none), (32, none), (33, none), (34, none), (35, none), (37, none), (38, none), (39, none), (40, none), (41, none), (42, none), (43, none), (44, none), (45, none), (46, none), (36, none), (47, none), (48, none), (49, none)] mixed (by kernel_rfl) (by kernel_rfl) (by kernel_rfl) (take1 (atS at0) (take1 (atS at0) (take1 (atS at0) (take1 (atS at0) (take1 (atS at0) take0))))) <| w0 rfl rfl rfl (S0.move rfl) rfl <| w0 rfl rfl rfl (S0.move rfl) rfl <| w0 rfl rfl rfl (S0.nilCheck rfl) rfl <| w0 rfl rfl rfl (S0.fieldAddr rfl) rfl <| w0 rfl rfl rfl (S0.load rfl rfl) rfl <| w0 rfl rfl rfl (S0.move rfl) rfl <| ?_  -- op t34 := indexAddr 27 t32 t33
    refine w0 rfl rfl rfl (S0.index1 rfl rfl hlt) rfl <| ?_
    refine w0 rfl rfl rfl (S0.load rfl hgx) rfl <| ?_
    refine w0 rfl rfl rfl (S0.nilCheck rfl) rfl <| w0 rfl rfl rfl (S0.fieldAddr rfl) rfl <| w0 rfl rfl rfl (S0.load rfl rfl) rfl <| w0 rfl rfl rfl (S0.move rfl) rfl <| w0 rfl rfl rfl (S0.nilCheck rfl) rfl <| w0 rfl rfl rfl (S0.fieldAddr rfl) rfl <| w0 rfl rfl rfl (S0.load rfl rfl) rfl <| w0 rfl rfl rfl (S0.move rfl) rfl <| ?_  -- op t45 := indexAddr 27 t43 t44
    refine w0 rfl rfl rfl (S0.index1 rfl rfl hlt) rfl <| ?_
    refine w0 rfl rfl rfl (S0.load rfl hgx) rfl <| ?_
    refine w0 rfl rfl rfl (S0.nilCheck rfl) rfl <| w0 rfl rfl rfl (S0.fieldAddr rfl) rfl <| w0 rfl rfl rfl (S0.load rfl rfl) rfl <| ?_  -- op t39 := call F26{(*rivulet/device.Devices).Filters}(t28, t38)
    refine wc rfl rfl rfl rfl (S1.callF rfl (filters_spec hd ho y.i) (take1 at0 take0)) rfl ?_
    rintro v3 _ ⟨q3, hs3, rfl⟩
    refine wapp ?_
    rw [hgf] at hs3
    -- (nothing to walk: op t50 := call F32{rivulet/rivuletref02.Same}(t39, t49))
    refine wcS rfl rfl rfl rfl (S1.callF rfl (same_spec hs3.rdS hfs.rdS (by omega)) (take1 (atS (atS (atS (atS (atS at0))))) (take1 (atS (atS (atS at0))) take0))) rfl (take1 (atS (atS at0)) (take1 (atS (atS at0)) (take1 (atS (atS at0)) (take1 (atS at0) (take1 (atS at0) take0))))) ?_
    refine w0 rfl rfl rfl (S0.not rfl) rfl <| w0 rfl rfl rfl (S0.move rfl) rfl <| ?_  -- guard t52 (wants False) at t53 := move t0 [if #24=False]
    refine wcsFh (t := 52) rfl ((by simp)) ?_
    refine w0 rfl rfl rfl (S0.move rfl) rfl <| w0 rfl rfl rfl (S0.move rfl) rfl <| w0 rfl rfl rfl (S0.nilCheck rfl) rfl <| w0 rfl rfl rfl (S0.fieldAddr rfl) rfl <| w0 rfl rfl rfl (S0.load rfl rfl) rfl <| w0 rfl rfl rfl (S0.move rfl) rfl <| ?_  -- op t59 := indexAddr 27 t57 t58 [if #24=False]
    refine w0 rfl rfl rfl (S0.index1 rfl rfl hlt) rfl <| ?_
    refine w0 rfl rfl rfl (S0.load rfl hgx) rfl <| ?_
    refine w0 rfl rfl rfl (S0.nilCheck rfl) rfl <| w0 rfl rfl rfl (S0.fieldAddr rfl) rfl <| w0 rfl rfl rfl (S0.load rfl rfl) rfl <| w0 rfl rfl rfl (S0.move rfl) rfl <| w0 rfl rfl rfl (S0.nilCheck rfl) rfl <| w0 rfl rfl rfl (S0.fieldAddr rfl) rfl <| w0 rfl rfl rfl (S0.load rfl rfl) rfl <| w0 rfl rfl rfl (S0.move rfl) rfl <| ?_  -- op t70 := indexAddr 27 t68 t69 [if #24=False]
    refine w0 rfl rfl rfl (S0.index1 rfl rfl hlt) rfl <| ?_
    refine w0 rfl rfl rfl (S0.load rfl hgx) rfl <| ?_
    refine w0 rfl rfl rfl (S0.nilCheck rfl) rfl <| w0 rfl rfl rfl (S0.fieldAddr rfl) rfl <| w0 rfl rfl rfl (S0.load rfl rfl) rfl <| ?_  -- op t64 := call F25{(*rivulet/device.Devices).Marks}(t53, t63) [if #24=False]
    refine wc rfl rfl rfl rfl (S1.callF rfl (mrks_spec hd ho y.i) (take1 (atS at0) take0)) rfl ?_
    rintro v4 _ ⟨q4, hs4, rfl⟩
    refine wapp ?_
    rw [hgm] at hs4
    -- (nothing to walk: op t75 := call F34{rivulet/rivuletref06.Equal}(t64, t74) [if #24=False])
    refine wcS rfl rfl rfl rfl (S1.callF rfl (requal_spec hs4 hms (by omega)) (take1 (atS (atS (atS (atS (atS at0))))) (take1 (atS (atS (atS (atS at0)))) take0))) rfl (take1 (atS (atS at0)) (take1 (atS (atS at0)) (take1 (atS (atS at0)) (take1 (atS (atS at0)) (take1 (atS at0) take0))))) ?_
    refine w0 rfl rfl rfl (S0.not rfl) rfl <| w0 rfl rfl rfl (S0.pickF rfl rfl) rfl <| wE <| ?_  -- cond
    refine WP.condFh rfl ((by simp)) ?_
    refine WP.skip <| WP.region <| v0 (S0.move rfl) rfl <| v0 (S0.ari rfl rfl rfl (wrap_i64 (by omega))) rfl <| v0 (S0.assign rfl) rfl <| vE <| ?_  -- roundend
    exact ⟨k + 1, (by first | exact hlt | (dsimp only; exact hlt)), (by omega), ⟨⟨rfl, rfl, rfl, trivial⟩, rfl, rfl⟩, ⟨[q3, q4], by rw [hrc]; exact (pm fun a_ => by have h0_ := pm_of (hc1) a_; (try simp only [List.flatten_append, List.flatten_cons, List.flatten_nil, List.append_nil, List.cons_append, List.nil_append, List.append_assoc, nOf_app, nOf_cons, nOf_nil, Nat.add_zero, Nat.zero_add, List.map_append, List.map_cons, List.map_nil, cel, sv, RO.blks] at h0_); (try simp only [List.flatten_append, List.flatten_cons, List.flatten_nil, List.append_nil, List.cons_append, List.nil_append, List.append_assoc, nOf_app, nOf_cons, nOf_nil, Nat.add_zero, Nat.zero_add, List.map_append, List.map_cons, List.map_nil, cel, sv, RO.blks]); first | done | omega)⟩⟩
  · skip
    refine WP.exit <| WP.seq <| WP.region <| v0 (S0.assign rfl) rfl <| vE <| WP.ret <| ?_  -- ret
    refine r1 rfl rfl ⟨?_, rfl⟩
    rfl
end Go.Proofs.YtanecnnfpdhadaaGreatDoor
/- L3 -/
namespace Go.Proofs.YtanecnnfpdhadaaGreatDoor
open Go

theorem joinc {db : Nat} {S S' : DS} {c : List Blk} {i E : Int} (h : IsDev db S c) (ho : DevOk S) (e : joinD S i = (E, S')) :
    FN Tryz.prog 11 [.pointer (some ⟨db, 0, none⟩), .int .i64 i] [c] (fun u h => ∃ c', IsDev db S' c' ∧ u = .int .i64 E ∧ h = [c']) := by
  have := join_spec h ho i
  rw [e] at this; exact this
theorem leavec {db : Nat} {S S' : DS} {c : List Blk} {i E : Int} (h : IsDev db S c) (e : leaveD S i = (E, S')) :
    FN Tryz.prog 13 [.pointer (some ⟨db, 0, none⟩), .int .i64 i] [c] (fun u h => ∃ c', IsDev db S' c' ∧ u = .int .i64 E ∧ h = [c']) := by
  have := leave_spec h i
  rw [e] at this; exact this
theorem askc {db : Nat} {S S' : DS} {c : List Blk} {i E : Int} {f : Str} {on : Bool} (h : IsDev db S c) (ho : DevOk S) (hf : f.length ≤ 1000000) (e : askD S i f on = (E, S')) :
    FN Tryz.prog 15 [.pointer (some ⟨db, 0, none⟩), .int .i64 i, sv f, .bool on] [c] (fun u h => ∃ c', IsDev db S' c' ∧ u = .int .i64 E ∧ h = [c']) := by
  have := ask_spec h ho i hf on
  rw [e] at this; exact this
theorem offerc {db : Nat} {S S' : DS} {c : List Blk} {x : Ev} {l : List Int} (h : IsDev db S c) (ho : DevOk S) (ht : x.t.length ≤ 120) (e : offerD S x = (l, S')) :
    FN Tryz.prog 18 [.pointer (some ⟨db, 0, none⟩), .agg ⟨evB x⟩] [c] (fun u h => ∃ c' row, IsDev db S' c' ∧ IsSl 3 1 u (ints l) row ∧ h = [row, c']) := by
  have := offer_spec h ho ht
  rw [e] at this; exact this
theorem savec {db : Nat} {S : DS} {c : List Blk} {s : Str} (h : IsDev db S c) (ho : DevOk S) (e : saveD S = s) :
    FN Tryz.prog 21 [.pointer (some ⟨db, 0, none⟩)] [c] (is (sv s) [c]) := by
  have := save_spec h ho
  rw [e] at this; exact this
theorem loadc {S : DS} {s : Str} (hs : s.length ≤ 1000000) (e : loadD s = some S) :
    FN Tryz.prog 20 [sv s] [] (fun u h => ∃ db c j, DevOk S ∧ IsDev db S c ∧ u = .tuple ⟨[.pointer (some ⟨db, 0, none⟩), .int .i64 0]⟩ ∧ h = [c, j]) :=
  (load_spec hs).mono fun u h hq => by
    rcases hq with ⟨S', db, c, j, h1, h2, h3, h4, h5⟩ | ⟨j, h1, -, -⟩
    · rw [e] at h1; cases h1; exact ⟨db, c, j, h2, h3, h4, h5⟩
    · rw [e] at h1; cases h1
theorem loadn {s : Str} (hs : s.length ≤ 1000000) (e : loadD s = none) :
    FN Tryz.prog 20 [sv s] [] (fun u h => ∃ j, u = .tuple ⟨[.pointer none, .int .i64 4]⟩ ∧ h = [j]) :=
  (load_spec hs).mono fun u h hq => by
    rcases hq with ⟨S', db, c, j, h1, h2, h3, h4, h5⟩ | ⟨j, h1, h2, h3⟩
    · rw [e] at h1; cases h1
    · exact ⟨j, h2, h3⟩
theorem row_int {b n : Nat} {l : List Int} (h : l.length = n) : IsSl 3 1 (.slice (some ⟨b, 0, none⟩) n n) (ints l) [(b, .cells ⟨ints l⟩ 3 (0, 0))] := by
  have := (IsSl.row (E := 3) (k := 1) (b := b) (n := n) (c := n) (l := ints l) (sp := []) (by simp [ints, h]) (by simp [ints, h]) (Nat.le_refl _))
  rwa [List.append_nil] at this
theorem row_str {b n : Nat} {l : List Str} (h : l.length = n) : RdS (.slice (some ⟨b, 0, none⟩) n n) l [(b, .cells ⟨strs l⟩ 9 (0, 0))] := by
  have := IsSl.rdS (E := 9) (R := l) (IsSl.row (E := 9) (k := 1) (b := b) (n := n) (c := n) (l := strs l) (sp := []) (by simp [strs, h]) (by simp [strs, h]) (Nat.le_refl _))
  rwa [List.append_nil] at this
theorem row_mk {b : Nat} (m : MkT) : IsSl 54 2 (.slice (some ⟨b, 0, none⟩) 1 1) ([m].flatMap enM) [(b, .cells ⟨[.int .i64 m.1, .int .i64 m.2]⟩ 54 (0, 0))] :=
  IsSl.row (E := 54) (k := 2) (b := b) (n := 1) (c := 1) (l := [m].flatMap enM) (sp := []) rfl rfl (Nat.le_refl _)
abbrev x1 : DS := [⟨1, [], []⟩]
abbrev x2 : DS := [⟨1, [[97, 47, 43]], []⟩]
abbrev x3 : DS := [⟨1, [[97, 47, 43]], [(3, 5)]⟩]
abbrev e1 : Ev := ⟨3, 5, [97, 47, 98], [], 1⟩
abbrev e2 : Ev := ⟨3, 6, [97, 47, 98], [], 0⟩
abbrev s3 : Str := [1, 1, 1, 3, 97, 47, 43, 1, 3, 5]
theorem j1 : joinD [] 1 = (0, x1) := by kernel_rfl
theorem j2 : joinD x1 1 = (9, x1) := by kernel_rfl
theorem j3 : joinD x1 (-1) = (1, x1) := by kernel_rfl
theorem a1 : askD x1 1 [97, 47, 43] true = (0, x2) := by kernel_rfl
theorem a2 : askD x2 1 [97, 47, 43] true = (9, x2) := by kernel_rfl
theorem a3 : askD x2 2 [97] true = (8, x2) := by kernel_rfl
theorem a4 : askD x2 1 [97] false = (8, x2) := by kernel_rfl
theorem a5 : askD x2 1 [47, 47] true = (1, x2) := by kernel_rfl
theorem o1 : offerD x2 e1 = ([1], x3) := by kernel_rfl
theorem o2 : offerD x3 e1 = ([], x3) := by kernel_rfl
theorem o3 : offerD x3 e2 = ([], x3) := by kernel_rfl
theorem w3 : saveD x3 = s3 := by kernel_rfl
theorem l3 : loadD s3 = some x3 := by kernel_rfl
theorem l4 : loadD (s3 ++ [120]) = none := by kernel_rfl
theorem v1' : leaveD x3 1 = (0, []) := by kernel_rfl
theorem ok1 : DevOk x1 := by have := DevOk.nil.join 1; rw [j1] at this; exact this
theorem ok2 : DevOk x2 := by have := ok1.ask 1 [97, 47, 43] true; rw [a1] at this; exact this
theorem ok3 : DevOk x3 := by have := ok2.offer e1; rw [o1] at this; exact this
set_option maxRecDepth 100000 in
theorem fixed_spec : FN Tryz.prog 23 [] [] (is (.bool true) []) := by
  refine FN.intro 160 [] Tryz.func23 rfl (enters Tryz.func23 (by kernel_rfl) rfl) Tryz.ntmps23 rfl rfl ?_
  refine WP.seq <| WP.region <| v0 (S0.assign rfl) rfl <| vE <| WP.seq <| WP.region <| ?_  -- op t20 := call F10{rivulet/device.New}()
  refine vc (S1.callF rfl (new_spec) take0) rfl ?_
  rintro _ _ ⟨db, c0, rfl, h0, rfl⟩
  refine app ?_
  refine v0 (S0.assign rfl) rfl <| vE <| WP.seq <| WP.seq <| WP.region <| v0 (S0.move rfl) rfl <| v0 (S0.nilP rfl rfl rfl rfl) rfl <| vE <| ?_  -- cond
  refine WP.condFh rfl (rfl) ?_
  refine WP.skip <| WP.seq <| WP.region <| v0 (S0.build rfl (qs := [(0, _), (1, _), (2, _), (4, _)]) rfl) rfl <| vn (S1.alloc) rfl fun b2 => vs (S1.storeA rfl rfl rfl) <| vE <| WP.seq <| WP.region <| v0 (S0.move rfl) rfl <| ?_  -- op t25 := call F11{(*rivulet/device.Devices).Join}(t24, 1:i64)
  refine vc (S1.callF rfl (joinc h0 DevOk.nil j1) (take1 (atS at0) take0)) rfl ?_
  rintro _ _ ⟨c1, h1, rfl, rfl⟩
  refine app ?_
  refine v0 (S0.move rfl) rfl <| ?_  -- op t27 := call F11{(*rivulet/device.Devices).Join}(t26, 1:i64)
  refine vc (S1.callF rfl (joinc h1 ok1 j2) (take1 at0 take0)) rfl ?_
  rintro _ _ ⟨c2, h2, rfl, rfl⟩
  refine app ?_
  refine v0 (S0.move rfl) rfl <| ?_  -- op t29 := call F11{(*rivulet/device.Devices).Join}(t28, -1:i64)
  refine vc (S1.callF rfl (joinc h2 ok1 j3) (take1 at0 take0)) rfl ?_
  rintro _ _ ⟨c3, h3, rfl, rfl⟩
  refine app ?_
  refine v0 (S0.assign rfl) rfl <| v0 (S0.assign rfl) rfl <| v0 (S0.assign rfl) rfl <| vE <| WP.seq <| WP.region <| v0 (S0.move rfl) rfl <| ?_  -- op t31 := call F15{(*rivulet/device.Devices).Ask}(t30, 1:i64, Value.string {'data': [97, 47, 43]}, true)
  refine vc (S1.callF rfl (askc h3 ok1 (by decide) a1) (take1 at0 take0)) rfl ?_
  rintro _ _ ⟨c4, h4, rfl, rfl⟩
  refine app ?_
  refine v0 (S0.move rfl) rfl <| ?_  -- op t33 := call F15{(*rivulet/device.Devices).Ask}(t32, 1:i64, Value.string {'data': [97, 47, 43]}, true)
  refine vc (S1.callF rfl (askc h4 ok2 (by decide) a2) (take1 at0 take0)) rfl ?_
  rintro _ _ ⟨c5, h5, rfl, rfl⟩
  refine app ?_
  refine v0 (S0.move rfl) rfl <| ?_  -- op t35 := call F15{(*rivulet/device.Devices).Ask}(t34, 2:i64, Value.string {'data': [97]}, true)
  refine vc (S1.callF rfl (askc h5 ok2 (by decide) a3) (take1 at0 take0)) rfl ?_
  rintro _ _ ⟨c6, h6, rfl, rfl⟩
  refine app ?_
  refine v0 (S0.assign rfl) rfl <| v0 (S0.assign rfl) rfl <| v0 (S0.assign rfl) rfl <| vE <| WP.seq <| WP.region <| v0 (S0.move rfl) rfl <| ?_  -- op t37 := call F15{(*rivulet/device.Devices).Ask}(t36, 1:i64, Value.string {'data': [97]}, false)
  refine vc (S1.callF rfl (askc h6 ok2 (by decide) a4) (take1 at0 take0)) rfl ?_
  rintro _ _ ⟨c7, h7, rfl, rfl⟩
  refine app ?_
  refine v0 (S0.move rfl) rfl <| ?_  -- op t39 := call F15{(*rivulet/device.Devices).Ask}(t38, 1:i64, Value.string {'data': [47, 47]}, true)
  refine vc (S1.callF rfl (askc h7 ok2 (by decide) a5) (take1 at0 take0)) rfl ?_
  rintro _ _ ⟨c8, h8, rfl, rfl⟩
  refine app ?_
  skip
  refine v0 (S0.assign rfl) rfl <| v0 (S0.assign rfl) rfl <| vE <| WP.seq <| WP.drawP [(0, none), (1, none), (3, none), (4, none), (2, none), (5, none), (6, none), (7, none)] mixed (by kernel_rfl) (by kernel_rfl) (by kernel_rfl) (take1 (atS at0) take0) <| w0 rfl rfl rfl (S0.move rfl) rfl <| w0 rfl rfl rfl (S0.loadAL rfl) rfl <| w0 rfl rfl rfl (S0.move rfl) rfl <| w0 rfl rfl rfl (S0.loadAL rfl) rfl <| ?_  -- op t42 := call F18{(*rivulet/device.Devices).Offer}(t40, t41)
  refine wc rfl rfl rfl rfl (S1.callF rfl (offerc (x := e1) h8 ok2 (by decide) o1) (take1 at0 take0)) rfl ?_
  rintro xv _ ⟨c9, q1, h9, hs1, rfl⟩
  refine wapp ?_
  -- (nothing to walk: op t45 := call F18{(*rivulet/device.Devices).Offer}(t43, t44))
  refine wc rfl rfl rfl rfl (S1.callF rfl (offerc (x := e1) h9 ok3 (by decide) o2) (take1 (atS at0) take0)) rfl ?_
  rintro yv _ ⟨c10, q2, h10, hs2, rfl⟩
  refine wapp ?_
  obtain ⟨ya, yc, rfl, -, -⟩ := hs2.intsE
  refine w0 rfl rfl rfl (S0.assign rfl) rfl <| w0 rfl rfl rfl (S0.assign rfl) rfl <| wE <| WP.seq <| WP.region <| v0 (S0.fieldAddr rfl) rfl <| vs (S1.store rfl rfl (by first | rfl | exact IsSl.cv (by assumption))) <| vE <| WP.seq <| WP.region <| v0 (S0.fieldAddr rfl) rfl <| vs (S1.store rfl rfl (by first | rfl | exact IsSl.cv (by assumption))) <| vE <| WP.seq <| WP.region <| v0 (S0.move rfl) rfl <| v0 (S0.loadAL rfl) rfl <| ?_  -- op t50 := call F18{(*rivulet/device.Devices).Offer}(t48, t49)
  refine vc (S1.callF rfl (offerc (x := e2) h10 ok3 (by decide) o3) (take1 (atS (atS at0)) take0)) rfl ?_
  rintro zv _ ⟨c11, q3, h11, hs3, rfl⟩
  refine app ?_
  obtain ⟨za, zc, rfl, -, -⟩ := hs3.intsE
  refine v0 (S0.assign rfl) rfl <| vE <| WP.seq <| WP.region <| v0 (S0.move rfl) rfl <| ?_  -- op t52 := call F21{(*rivulet/device.Devices).Save}(t51)
  refine vcd (S1.callF rfl (savec h11 ok3 w3) (take1 (atS at0) take0)) rfl ?_
  refine v0 (S0.assign rfl) rfl <| vE <| WP.seq <| WP.region <| v0 (S0.move rfl) rfl <| ?_  -- op t55 := call F20{rivulet/device.Load}(t54)
  refine vc (S1.callF rfl (loadc (by decide) l3) take0) rfl ?_
  rintro _ _ ⟨odb, co, jo, -, ho, rfl, rfl⟩
  refine app ?_
  refine v0 (S0.move rfl) rfl <| v0 (S0.extract rfl rfl) rfl <| v0 (S0.extract rfl rfl) rfl <| v0 (S0.assign rfl) rfl <| v0 (S0.assign rfl) rfl <| vE <| WP.seq <| WP.region <| v0 (S0.move rfl) rfl <| ?_  -- op t60 := add t59 Value.string {'data': [120]} :9
  refine v0 (S0.addS rfl rfl (by decide)) rfl <| ?_
  refine vc (S1.callF rfl (loadn (by decide) l4) take0) rfl ?_
  rintro _ _ ⟨j4, rfl, rfl⟩
  refine app ?_
  refine v0 (S0.move rfl) rfl <| v0 (S0.extract rfl rfl) rfl <| v0 (S0.extract rfl rfl) rfl <| v0 (S0.assign rfl) rfl <| v0 (S0.assign rfl) rfl <| vE <| WP.seq <| WP.region <| v0 (S0.move rfl) rfl <| ?_  -- op t65 := call F13{(*rivulet/device.Devices).Leave}(t64, 1:i64)
  refine vc (S1.callF rfl (leavec h11 v1') (take1 (atS (atS (atS at0))) take0)) rfl ?_
  rintro _ _ ⟨c12, h12, rfl, rfl⟩
  refine app ?_
  refine v0 (S0.assign rfl) rfl <| vE <| WP.seq <| WP.seq <| WP.region <| v0 (S0.move rfl) rfl <| v0 (S0.nilP rfl rfl rfl rfl) rfl <| vE <| ?_  -- cond
  refine WP.condFh rfl (rfl) ?_
  refine WP.skip <| WP.seq <| WP.region <| v0 (S0.move rfl) rfl <| v0 (S0.cmp rfl rfl rfl) rfl <| v0 (S0.move rfl) rfl <| ?_  -- guard t70 (wants True) at t71 := move t4 [if #2=True]
  refine csTh (t := 70) rfl (rfl) ?_
  refine gT rfl <| v0 (S0.move rfl) rfl <| gT rfl <| v0 (S0.cmp rfl rfl rfl) rfl <| v0 (S0.pickT rfl rfl) rfl <| v0 (S0.move rfl) rfl <| ?_  -- guard t74 (wants True) at t75 := move t5 [if #6=True]
  refine csTh (t := 74) rfl (rfl) ?_
  refine gT rfl <| v0 (S0.move rfl) rfl <| gT rfl <| v0 (S0.cmp rfl rfl rfl) rfl <| v0 (S0.pickT rfl rfl) rfl <| v0 (S0.move rfl) rfl <| ?_  -- guard t78 (wants True) at t79 := move t6 [if #10=True]
  refine csTh (t := 78) rfl (rfl) ?_
  refine gT rfl <| v0 (S0.move rfl) rfl <| gT rfl <| v0 (S0.cmp rfl rfl rfl) rfl <| v0 (S0.pickT rfl rfl) rfl <| v0 (S0.move rfl) rfl <| ?_  -- guard t82 (wants True) at t83 := move t7 [if #14=True]
  refine csTh (t := 82) rfl (rfl) ?_
  refine gT rfl <| v0 (S0.move rfl) rfl <| gT rfl <| v0 (S0.cmp rfl rfl rfl) rfl <| v0 (S0.pickT rfl rfl) rfl <| v0 (S0.move rfl) rfl <| ?_  -- guard t86 (wants True) at t87 := move t8 [if #18=True]
  refine csTh (t := 86) rfl (rfl) ?_
  refine gT rfl <| v0 (S0.move rfl) rfl <| gT rfl <| v0 (S0.cmp rfl rfl rfl) rfl <| v0 (S0.pickT rfl rfl) rfl <| v0 (S0.move rfl) rfl <| ?_  -- guard t90 (wants True) at t91 := move t9 [if #22=True]
  refine csTh (t := 90) rfl (rfl) ?_
  refine gT rfl <| v0 (S0.move rfl) rfl <| gT rfl <| v0 (S0.cmp rfl rfl rfl) rfl <| v0 (S0.pickT rfl rfl) rfl <| v0 (S0.move rfl) rfl <| ?_  -- guard t94 (wants True) at t95 := move t10 [if #26=True]
  refine csTh (t := 94) rfl (rfl) ?_
  refine gT rfl <| v0 (S0.move rfl) rfl <| gT rfl <| v0 (S0.cmp rfl rfl rfl) rfl <| v0 (S0.pickT rfl rfl) rfl <| v0 (S0.move rfl) rfl <| ?_  -- guard t98 (wants True) at t99 := move t11 [if #30=True]
  refine csTh (t := 98) rfl (rfl) ?_
  refine gT rfl <| v0 (S0.move rfl) rfl <| gT rfl <| vnv (S1.buildSlice rfl (qs := [(0, _)]) rfl rfl) rfl fun b100 => ?_  -- op t101 := call F17{rivulet/rivuletref04.Ints}(t99, t100) [if #30=True]
  refine gT rfl <| vcd (S1.callF rfl (ints_spec hs1 (row_int (l := [1]) rfl) (by decide)) (take1 (atS (atS (atS (atS (atS (atS (atS (atS at0)))))))) (take1 at0 take0))) rfl ?_
  refine v0 (S0.pickT rfl rfl) rfl <| v0 (S0.move rfl) rfl <| ?_  -- guard t103 (wants True) at t104 := move t12 [if #35=True]
  refine csTh (t := 103) rfl (rfl) ?_
  refine gT rfl <| v0 (S0.move rfl) rfl <| gT rfl <| v0 (S0.lenSl rfl) rfl <| gT rfl <| v0 (S0.cmp rfl rfl rfl) rfl <| v0 (S0.pickT rfl rfl) rfl <| v0 (S0.move rfl) rfl <| ?_  -- guard t108 (wants True) at t109 := move t13 [if #40=True]
  refine csTh (t := 108) rfl (rfl) ?_
  refine gT rfl <| v0 (S0.move rfl) rfl <| gT rfl <| v0 (S0.lenSl rfl) rfl <| gT rfl <| v0 (S0.cmp rfl rfl rfl) rfl <| v0 (S0.pickT rfl rfl) rfl <| v0 (S0.move rfl) rfl <| ?_  -- guard t113 (wants True) at t114 := move t14 [if #45=True]
  refine csTh (t := 113) rfl (rfl) ?_
  refine gT rfl <| v0 (S0.move rfl) rfl <| gT rfl <| v0 (S0.cmpS rfl rfl rfl) rfl <| v0 (S0.pickT rfl rfl) rfl <| v0 (S0.move rfl) rfl <| ?_  -- guard t117 (wants True) at t118 := move t16 [if #49=True]
  refine csTh (t := 117) rfl (rfl) ?_
  refine gT rfl <| v0 (S0.move rfl) rfl <| gT rfl <| v0 (S0.cmp rfl rfl rfl) rfl <| v0 (S0.pickT rfl rfl) rfl <| v0 (S0.move rfl) rfl <| ?_  -- guard t121 (wants True) at t122 := move t18 [if #53=True]
  refine csTh (t := 121) rfl (rfl) ?_
  refine gT rfl <| v0 (S0.move rfl) rfl <| gT rfl <| v0 (S0.cmp rfl rfl rfl) rfl <| v0 (S0.pickT rfl rfl) rfl <| v0 (S0.move rfl) rfl <| ?_  -- guard t125 (wants True) at t126 := move t19 [if #57=True]
  refine csTh (t := 125) rfl (rfl) ?_
  refine gT rfl <| v0 (S0.move rfl) rfl <| gT rfl <| v0 (S0.cmp rfl rfl rfl) rfl <| v0 (S0.pickT rfl rfl) rfl <| v0 (S0.move rfl) rfl <| ?_  -- guard t129 (wants True) at t130 := move t1 [if #61=True]
  refine csTh (t := 129) rfl (rfl) ?_
  refine gT rfl <| v0 (S0.move rfl) rfl <| ?_  -- op t131 := call F33{(*rivulet/device.Devices).Ids}(t130) [if #61=True]
  refine gT rfl <| vc (S1.callF rfl (ids_spec h12 DevOk.nil) (take1 (atS (atS at0)) take0)) rfl ?_
  rintro iv _ ⟨q4, hs4, rfl⟩
  refine app ?_
  obtain ⟨ia, ic, rfl, -, -⟩ := hs4.intsE
  refine gT rfl <| v0 (S0.lenSl rfl) rfl <| gT rfl <| v0 (S0.cmp rfl rfl rfl) rfl <| v0 (S0.pickT rfl rfl) rfl <| v0 (S0.move rfl) rfl <| ?_  -- guard t135 (wants True) at t136 := move t15 [if #67=True]
  refine csTh (t := 135) rfl (rfl) ?_
  refine gT rfl <| v0 (S0.move rfl) rfl <| ?_  -- op t137 := call F33{(*rivulet/device.Devices).Ids}(t136) [if #67=True]
  refine gT rfl <| vc (S1.callF rfl (ids_spec ho ok3) (take1 (atS (atS (atS (atS (atS at0))))) take0)) rfl ?_
  rintro iv2 _ ⟨q5, hs5, rfl⟩
  refine app ?_
  refine gT rfl <| vnv (S1.buildSlice rfl (qs := [(0, _)]) rfl rfl) rfl fun b138 => ?_  -- op t139 := call F17{rivulet/rivuletref04.Ints}(t137, t138) [if #67=True]
  refine gT rfl <| vcd (S1.callF rfl (ints_spec hs5 (row_int (l := [1]) rfl) (by decide)) (take1 (atS at0) (take1 at0 take0))) rfl ?_
  refine v0 (S0.pickT rfl rfl) rfl <| v0 (S0.move rfl) rfl <| ?_  -- guard t141 (wants True) at t142 := move t15 [if #73=True]
  refine csTh (t := 141) rfl (rfl) ?_
  refine gT rfl <| v0 (S0.move rfl) rfl <| ?_  -- op t143 := call F26{(*rivulet/device.Devices).Filters}(t142, 1:i64) [if #73=True]
  refine gT rfl <| vc (S1.callF rfl (filters_spec ho ok3 1) (take1 (atS (atS at0)) take0)) rfl ?_
  rintro fv _ ⟨q6, hs6, rfl⟩
  refine app ?_
  refine gT rfl <| vnv (S1.buildSlice rfl (qs := [(0, _)]) rfl rfl) rfl fun b144 => ?_  -- op t145 := call F32{rivulet/rivuletref02.Same}(t143, t144) [if #73=True]
  refine gT rfl <| vcd (S1.callF rfl (same_spec hs6.rdS (row_str (l := [[97, 47, 43]]) rfl) (by decide)) (take1 (atS at0) (take1 at0 take0))) rfl ?_
  refine v0 (S0.pickT rfl rfl) rfl <| v0 (S0.move rfl) rfl <| ?_  -- guard t147 (wants True) at t148 := move t15 [if #79=True]
  refine csTh (t := 147) rfl (rfl) ?_
  refine gT rfl <| v0 (S0.move rfl) rfl <| ?_  -- op t149 := call F25{(*rivulet/device.Devices).Marks}(t148, 1:i64) [if #79=True]
  refine gT rfl <| vc (S1.callF rfl (mrks_spec ho ok3 1) (take1 (atS (atS at0)) take0)) rfl ?_
  rintro mv _ ⟨q7, hs7, rfl⟩
  refine app ?_
  refine gT rfl <| v0 (S0.build rfl (qs := [(0, _), (1, _)]) rfl) rfl <| gT rfl <| vnv (S1.buildSlice rfl (qs := [(0, _)]) rfl rfl) rfl fun b151 => ?_  -- op t152 := call F34{rivulet/rivuletref06.Equal}(t149, t151) [if #79=True]
  refine gT rfl <| vcd (S1.callF rfl (requal_spec hs7 (row_mk (3, 5)) (by decide)) (take1 (atS at0) (take1 at0 take0))) rfl ?_
  refine v0 (S0.pickT rfl rfl) rfl <| v0 (S0.move rfl) rfl <| ?_  -- guard t154 (wants True) at t155 := move t15 [if #86=True]
  refine csTh (t := 154) rfl (rfl) ?_
  refine gT rfl <| v0 (S0.move rfl) rfl <| ?_  -- op t156 := call F26{(*rivulet/device.Devices).Filters}(t155, 2:i64) [if #86=True]
  refine gT rfl <| vc (S1.callF rfl (filters_spec ho ok3 2) (take1 (atS (atS at0)) take0)) rfl ?_
  rintro fv2 _ ⟨q8, hs8, rfl⟩
  refine app ?_
  obtain ⟨fa, fc, rfl, -, -⟩ := hs8.strsE
  refine gT rfl <| v0 (S0.lenSl rfl) rfl <| gT rfl <| v0 (S0.cmp rfl rfl rfl) rfl <| v0 (S0.pickT rfl rfl) rfl <| v0 (S0.assign rfl) rfl <| vE <| WP.ret <| ?_  -- ret
  refine Leaves.drop take0 ?_
  refine r1 rfl rfl ⟨?_, rfl⟩
  rfl
end Go.Proofs.YtanecnnfpdhadaaGreatDoor
/- L4 -/
namespace Go.Proofs.YtanecnnfpdhadaaGreatDoor
open Go

theorem min400 (n : Nat) : (if (400 : Int) < (n : Int) then 400 else (n : Int)) = ((min n 400 : Nat) : Int) := by split <;> omega
theorem take_min400 (l : Str) : (l.drop 0).take (min l.length 400 - 0) = l.take 400 := by
  rw [List.drop_zero, Nat.sub_zero]
  rcases Nat.le_total l.length 400 with h | h
  · rw [Nat.min_eq_left h, List.take_length, List.take_of_length_le h]
  · rw [Nat.min_eq_right h]
theorem deviceLoads_walk (W : World) (s0 : Str) (hs0 : s0.length ≤ maxLen) : FN Tryz.prog 4 [sv s0] [whole W] (fun v h => v = .bool true ∧ h = [whole W]) := by
  refine FN.intro 48 [(0, sv s0)] Tryz.func4 rfl (enters Tryz.func4 (by kernel_rfl) rfl) Tryz.ntmps4 rfl rfl ?_
  refine WP.seq <| WP.region <| v0 (S0.assign rfl) rfl <| vE <| WP.seq <| WP.region <| v0 (S0.move rfl) rfl <| v0 (S0.move rfl) rfl <| v0 (S0.lenSt rfl) rfl <| v0 (S0.min2 rfl rfl rfl) rfl <| ?_  -- op t11 := slice 9 t7 none t10 none
  rw [min400]
  refine v0 (S0.sliceSt (i := 0) (j := min s0.length 400) rfl rfl rfl ⟨Nat.zero_le _, by omega⟩) rfl <| ?_
  rw [take_min400]
  have hs : (s0.take 400).length ≤ 400 := by rw [List.length_take]; omega
  generalize s0.take 400 = s at hs
  refine v0 (S0.assign rfl) rfl <| vE <| WP.seq <| WP.region <| v0 (S0.move rfl) rfl <| ?_  -- op t14 := call F20{rivulet/device.Load}(t13)
  refine vc (S1.callF rfl (load_spec (s := s) (by omega)) take0) rfl ?_
  rintro _ _ (⟨S, db, c, j, hl, ho, hd, rfl, rfl⟩ | ⟨j, hl, rfl, rfl⟩)
  refine app ?_
  skip
  · skip
    refine v0 (S0.move rfl) rfl <| v0 (S0.extract rfl rfl) rfl <| v0 (S0.extract rfl rfl) rfl <| v0 (S0.assign rfl) rfl <| v0 (S0.assign rfl) rfl <| vE <| WP.seq <| WP.region <| v0 (S0.move rfl) rfl <| ?_  -- op t19 := call F24{rivulet/rivuletref19.Load}(t18)
    refine vc (S1.callF rfl (rload_spec (s := s) (by omega)) take0) rfl ?_
    rintro _ _ (⟨S', rb, rc, hl2, ho2, hr, rfl, rfl⟩ | ⟨hl2, rfl, rfl⟩)
    refine app ?_
    · rw [hl] at hl2
      cases hl2
      refine v0 (S0.move rfl) rfl <| v0 (S0.extract rfl rfl) rfl <| v0 (S0.extract rfl rfl) rfl <| v0 (S0.assign rfl) rfl <| v0 (S0.assign rfl) rfl <| vE <| WP.seq <| WP.seq <| WP.region <| v0 (S0.move rfl) rfl <| v0 (S0.move rfl) rfl <| v0 (S0.cmp rfl rfl rfl) rfl <| v0 (S0.move rfl) rfl <| ?_  -- guard t25 (wants False) at t26 := move t3 [if #3=False]
      refine csFh (t := 25) rfl (rfl) ?_
      refine gT rfl <| v0 (S0.move rfl) rfl <| gT rfl <| v0 (S0.nilP rfl rfl rfl rfl) rfl <| gT rfl <| v0 (S0.move rfl) rfl <| gT rfl <| v0 (S0.nilP rfl rfl rfl rfl) rfl <| gT rfl <| v0 (S0.cmpB rfl rfl rfl) rfl <| v0 (S0.pickF rfl rfl) rfl <| vE <| ?_  -- cond
      refine WP.condFh rfl (rfl) ?_
      refine WP.skip <| WP.seq <| WP.region <| v0 (S0.move rfl) rfl <| v0 (S0.nilP rfl rfl rfl rfl) rfl <| v0 (S0.move rfl) rfl <| ?_  -- guard t34 (wants False) at t35 := move t3 [if #2=False]
      refine csFh (t := 34) rfl (rfl) ?_
      refine gT rfl <| v0 (S0.move rfl) rfl <| gT rfl <| v0 (S0.move rfl) rfl <| ?_  -- op t37 := call F22{rivulet/rivuletlaw19.same}(t35, t36) [if #2=False]
      refine gT rfl <| vcd (S1.callF rfl (sameD_spec hd hr ho) (take1 (atS at0) (take1 at0 take0))) rfl ?_
      refine gT rfl <| v0 (S0.move rfl) rfl <| ?_  -- guard t38 (wants True) at t39 := move t3 [if #6=True]
      refine csTh (t := 38) rfl (rfl) ?_
      refine gT rfl <| v0 (S0.move rfl) rfl <| ?_  -- op t40 := call F21{(*rivulet/device.Devices).Save}(t39) [if #6=True]
      refine gT rfl <| vcd (S1.callF rfl (save_spec hd ho) (take1 at0 take0)) rfl ?_
      rw [load_save' hl]
      refine gT rfl <| v0 (S0.move rfl) rfl <| gT rfl <| v0 (S0.cmpS rfl rfl rfl) rfl <| gT rfl <| v0 (S0.pickT rfl rfl) rfl <| v0 (S0.pickF rfl rfl) rfl <| v0 (S0.move rfl) rfl <| ?_  -- guard t45 (wants True) at t46 := call F23{rivulet/rivuletlaw19.fixed}() [if #13=True]
      refine csTh (t := 45) rfl ((by simp)) ?_
      -- (nothing to walk: op t46 := call F23{rivulet/rivuletlaw19.fixed}() [if #13=True])
      refine gT rfl <| vcd (S1.callF rfl (fixed_spec) take0) rfl ?_
      refine v0 (S0.pickT rfl rfl) rfl <| v0 (S0.assign rfl) rfl <| vE <| WP.ret <| ?_  -- ret
      refine Leaves.drop (take1 (atS (atS (atS at0))) take0) ?_
      refine r1 rfl rfl ?_
      exact ⟨by simp, rfl⟩
    · rw [hl] at hl2; cases hl2
  · skip
    refine v0 (S0.move rfl) rfl <| v0 (S0.extract rfl rfl) rfl <| v0 (S0.extract rfl rfl) rfl <| v0 (S0.assign rfl) rfl <| v0 (S0.assign rfl) rfl <| vE <| WP.seq <| WP.region <| v0 (S0.move rfl) rfl <| ?_  -- op t19 := call F24{rivulet/rivuletref19.Load}(t18)
    refine vc (S1.callF rfl (rload_spec (s := s) (by omega)) take0) rfl ?_
    rintro _ _ (⟨S', rb, rc, hl2, ho2, hr, rfl, rfl⟩ | ⟨hl2, rfl, rfl⟩)
    refine app ?_
    · rw [hl] at hl2; cases hl2
    · refine v0 (S0.move rfl) rfl <| v0 (S0.extract rfl rfl) rfl <| v0 (S0.extract rfl rfl) rfl <| v0 (S0.assign rfl) rfl <| v0 (S0.assign rfl) rfl <| vE <| WP.seq <| WP.seq <| WP.region <| v0 (S0.move rfl) rfl <| v0 (S0.move rfl) rfl <| v0 (S0.cmp rfl rfl rfl) rfl <| v0 (S0.move rfl) rfl <| ?_  -- guard t25 (wants False) at t26 := move t3 [if #3=False]
      refine csFh (t := 25) rfl (rfl) ?_
      refine gT rfl <| v0 (S0.move rfl) rfl <| gT rfl <| v0 (S0.nilP rfl rfl rfl rfl) rfl <| gT rfl <| v0 (S0.move rfl) rfl <| gT rfl <| v0 (S0.nilP rfl rfl rfl rfl) rfl <| gT rfl <| v0 (S0.cmpB rfl rfl rfl) rfl <| v0 (S0.pickF rfl rfl) rfl <| vE <| ?_  -- cond
      refine WP.condFh rfl (rfl) ?_
      refine WP.skip <| WP.seq <| WP.region <| v0 (S0.move rfl) rfl <| v0 (S0.nilP rfl rfl rfl rfl) rfl <| v0 (S0.move rfl) rfl <| ?_  -- guard t34 (wants False) at t35 := move t3 [if #2=False]
      refine csTh (t := 34) rfl (rfl) ?_
      refine gF rfl rfl <| gF rfl rfl <| gF rfl rfl <| gF rfl rfl <| gF rfl rfl <| gF rfl rfl <| gF rfl rfl <| gF rfl rfl <| gF rfl rfl <| v0 (S0.pickT rfl rfl) rfl <| v0 (S0.move rfl) rfl <| ?_  -- op t46 := call F23{rivulet/rivuletlaw19.fixed}() [if #13=True]
      refine gT rfl <| vcd (S1.callF rfl (fixed_spec) take0) rfl ?_
      refine v0 (S0.pickT rfl rfl) rfl <| v0 (S0.assign rfl) rfl <| vE <| WP.ret <| ?_  -- ret
      refine Leaves.drop (take1 (atS at0) take0) ?_
      refine r1 rfl rfl ?_
      exact ⟨rfl, rfl⟩
end Go.Proofs.YtanecnnfpdhadaaGreatDoor
/- L5 -/
namespace Go.Proofs.YtanecnnfpdhadaaGreatDoor
open Go

set_option maxRecDepth 100000 in
set_option maxHeartbeats 1000000 in
theorem deviceDoes_walk (W : World) (lv : Value) (hl : ArgF W opK lv) : FN Tryz.prog 3 [lv] [whole W] (fun v h => v = .bool true ∧ h = [whole W]) := by
  obtain ⟨l0, hrl⟩ := argOps hl
  have hll := cutOs_len l0
  have hlx := cutOs_mem (l := l0)
  refine FN.intro 104 [(0, lv)] Tryz.func3 rfl (enters Tryz.func3 (by kernel_rfl) rfl) Tryz.ntmps3 rfl rfl ?_
  refine WP.seq <| WP.region <| v0 (S0.assign rfl) rfl <| vE <| WP.seq <| WP.region <| v0 (S0.move rfl) rfl <| ?_  -- op t12 := call F9{rivulet/rivuletlaw19.Cut}(t11)
  refine vc (S1.callF rfl (cut_spec hrl) (take1 at0 take0)) rfl ?_
  rintro _ _ ⟨row, hs, rfl⟩
  refine app ?_
  generalize cutOs l0 = M at hll hlx hs
  obtain ⟨ma, mcap, rfl, hmcap, hrow⟩ := IsSl.elems (k := 8) enO_len hs
  -- (nothing to walk: op t13 := call F10{rivulet/device.New}())
  refine vc (S1.callF rfl (new_spec) take0) rfl ?_
  rintro _ _ ⟨db0, c0, rfl, hd0, rfl⟩
  refine app ?_
  refine v0 (S0.build rfl (qs := []) rfl) rfl <| vn (S1.box rfl rfl) rfl fun b15 => v0 (S0.assign rfl) rfl <| v0 (S0.assign rfl) rfl <| v0 (S0.assign rfl) rfl <| vE <| WP.seq <| WP.seq <| WP.region <| v0 (S0.assign rfl) rfl <| vE <| WP.block <| ?_  -- Code.loop
  have hr0 : IsRD b15 [] [(b15, cel [.slice none 0 0] 29)] := ⟨[], ⟨.slice none 0 0, [], IsSl.nil, by simp, by simp [rblks]⟩, rfl⟩
  refine WP.loop (fun st : Nat × Nat × DS × List Blk × List Blk => st.1 ≤ M.length ∧ IsDev st.2.1 st.2.2.1 st.2.2.2.1 ∧ IsRD b15 st.2.2.1 st.2.2.2.2 ∧ DevOk st.2.2.1) (fun st : Nat × Nat × DS × List Blk × List Blk => [(3, .slice ma M.length mcap), (4, .pointer (some ⟨st.2.1, 0, none⟩)), (5, .pointer (some ⟨b15, 0, none⟩)), (6, .int .i64 (st.1 : Int))]) (fun st : Nat × Nat × DS × List Blk × List Blk => [st.2.2.2.1, st.2.2.2.2, row, whole W]) (fun st : Nat × Nat × DS × List Blk × List Blk => M.length - st.1) ((0, db0, [], c0, [(b15, cel [.slice none 0 0] 29)])) (⟨Nat.zero_le _, hd0, hr0, DevOk.nil⟩) ⟨rfl, rfl, rfl, rfl, trivial⟩ ⟨_, (take1 (atS at0) (take1 at0 (take1 at0 (take1 at0 take0))))⟩ (fun st hinv => ?_) 
  obtain ⟨i, db, S, c, rc⟩ := st
  obtain ⟨hi, hd, hr, ho⟩ := hinv
  dsimp only at hi hd hr ho ⊢
  refine WP.seq <| WP.seq <| WP.region <| v0 (S0.move rfl) rfl <| v0 (S0.move rfl) rfl <| v0 (S0.lenSl rfl) rfl <| v0 (S0.cmp rfl rfl rfl) rfl <| vE <| ?_  -- cond
  first | refine WP.condP rfl (fun h1 => ?_) (fun h1 => ?_) | refine WP.condN rfl (fun h1 => ?_) (fun h1 => ?_) | refine WP.cond rfl (fun h1 => ?_) (fun h1 => ?_)
  · skip
    have hlt : i < M.length := by omega
    rcases hrow with ⟨e, -⟩ | ⟨b1, sp1, rfl, rfl, hsp1⟩
    · rw [e] at hlt; simp at hlt
    have hx : M[i]? = some M[i] := by simp [hlt]
    have hxl := hlx _ (List.getElem_mem hlt)
    generalize M[i] = x at hx hxl
    have gA : ((M.flatMap enO ++ sp1).drop (i * 9)).take 9 = enO x := flat_take enO_len sp1 M i _ hx
    refine WP.skip <| WP.seq <| WP.block <| WP.seq <| WP.seq <| WP.region <| v0 (S0.move rfl) rfl <| v0 (S0.nilP rfl rfl rfl rfl) rfl <| vE <| ?_  -- cond
    refine WP.condFh rfl (rfl) ?_
    refine WP.skip <| WP.seq <| WP.region <| v0 (S0.move rfl) rfl <| v0 (S0.move rfl) rfl <| ?_  -- op t26 := indexAddr 22 t24 t25
    refine v0 (S0.indexN (k := 9) rfl rfl hlt) rfl <| ?_
    refine v0 (S0.loadA rfl gA rfl) rfl <| ?_
    refine vn (S1.alloc) rfl fun b7 => vs (S1.storeA rfl rfl rfl) <| vE <| WP.seq <| WP.region <| v0 (S0.assign rfl) rfl <| vE <| ?_  -- cut
    refine WP.cutS (fun st : Nat × DS × List Blk × List Blk × Bool => IsDev st.1 st.2.1 st.2.2.1 ∧ IsRD b15 st.2.1 st.2.2.2.1 ∧ DevOk st.2.1 ∧ st.2.2.2.2 = true) (fun st : Nat × DS × List Blk × List Blk × Bool => [(3, .slice (some ⟨b1, 0, none⟩) M.length mcap), (4, .pointer (some ⟨st.1, 0, none⟩)), (5, .pointer (some ⟨b15, 0, none⟩)), (6, .int .i64 (i : Int)), (8, .bool st.2.2.2.2)]) (fun st : Nat × DS × List Blk × List Blk × Bool => [st.2.2.1, st.2.2.2.1, [(b1, .cells ⟨M.flatMap enO ++ sp1⟩ 33 (0, 0))], whole W]) ?_ (fun st hinv => ?_)
    · refine WP.seq <| WP.region <| v0 (S0.fieldAddr rfl) rfl <| v0 (S0.load rfl rfl) rfl <| vE <| WP.block <| WP.seq <| WP.region <| v0 (S0.cmp rfl rfl rfl) rfl <| v0 (S0.assign rfl) rfl <| vE <| ?_  -- cond
      first | refine WP.condP rfl (fun k0 => ?_) (fun k0 => ?_) | refine WP.condN rfl (fun k0 => ?_) (fun k0 => ?_) | refine WP.cond rfl (fun k0 => ?_) (fun k0 => ?_)
      · skip
        have ho2 := ho.join x.i
        skip
        refine WP.drawP [(0, none), (1, none), (2, none), (4, none), (5, none), (6, none), (3, none), (7, none), (8, none), (9, none)] mixed (by kernel_rfl) (by kernel_rfl) (by kernel_rfl) (take1 at0 take0) <| w0 rfl rfl rfl (S0.move rfl) rfl <| w0 rfl rfl rfl (S0.fieldAddr rfl) rfl <| w0 rfl rfl rfl (S0.load rfl rfl) rfl <| w0 rfl rfl rfl (S0.move rfl) rfl <| w0 rfl rfl rfl (S0.fieldAddr rfl) rfl <| w0 rfl rfl rfl (S0.load rfl rfl) rfl <| ?_  -- op t44 := call F11{(*rivulet/device.Devices).Join}(t41, t43)
        refine wc rfl rfl rfl rfl (S1.callF rfl (join_spec hd ho x.i) (take1 at0 take0)) rfl ?_
        rintro _ _ ⟨c1, hd1, rfl, rfl⟩
        refine wapp ?_
        -- (nothing to walk: op t48 := call F12{(*rivulet/rivuletref19.Devices).Join}(t45, t47))
        refine wc rfl rfl rfl rfl (S1.callF rfl (rjoin_spec hr ho.len x.i) (take1 (atS at0) take0)) rfl ?_
        rintro _ _ ⟨rc1, hr1, rfl, rfl⟩
        refine wapp ?_
        refine w0 rfl rfl rfl (S0.cmp rfl rfl rfl) rfl <| w0 rfl rfl rfl (S0.assign rfl) rfl <| wE <| ?_  -- cutend
        exact ⟨(db, (joinD S x.i).2, c1, rc1, decide ((joinD S x.i).1 = (joinD S x.i).1)), (by first | exact ⟨hd1, hr1, ho2, by simp⟩ | (dsimp only; exact ⟨hd1, hr1, ho2, by simp⟩)), ⟨⟨rfl, rfl, rfl, rfl, rfl, trivial⟩, rfl, rfl⟩, ⟨_, (take1 (atS (atS at0)) (take1 (atS at0) (take1 (atS at0) (take1 (atS at0) take0))))⟩⟩
      · skip
        refine WP.seq <| WP.region <| v0 (S0.cmp rfl rfl rfl) rfl <| v0 (S0.assign rfl) rfl <| vE <| ?_  -- cond
        first | refine WP.condP rfl (fun k1 => ?_) (fun k1 => ?_) | refine WP.condN rfl (fun k1 => ?_) (fun k1 => ?_) | refine WP.cond rfl (fun k1 => ?_) (fun k1 => ?_)
        · skip
          have ho2 := ho.leave x.i
          skip
          refine WP.drawP [(0, none), (1, none), (2, none), (4, none), (5, none), (6, none), (3, none), (7, none), (8, none), (9, none)] mixed (by kernel_rfl) (by kernel_rfl) (by kernel_rfl) (take1 at0 take0) <| w0 rfl rfl rfl (S0.move rfl) rfl <| w0 rfl rfl rfl (S0.fieldAddr rfl) rfl <| w0 rfl rfl rfl (S0.load rfl rfl) rfl <| w0 rfl rfl rfl (S0.move rfl) rfl <| w0 rfl rfl rfl (S0.fieldAddr rfl) rfl <| w0 rfl rfl rfl (S0.load rfl rfl) rfl <| ?_  -- op t55 := call F13{(*rivulet/device.Devices).Leave}(t52, t54)
          refine wc rfl rfl rfl rfl (S1.callF rfl (leave_spec hd x.i) (take1 at0 take0)) rfl ?_
          rintro _ _ ⟨c1, hd1, rfl, rfl⟩
          refine wapp ?_
          -- (nothing to walk: op t59 := call F14{(*rivulet/rivuletref19.Devices).Leave}(t56, t58))
          refine wc rfl rfl rfl rfl (S1.callF rfl (rleave_spec hr ho.len x.i) (take1 (atS at0) take0)) rfl ?_
          rintro _ _ ⟨rc1, hr1, rfl, rfl⟩
          refine wapp ?_
          refine w0 rfl rfl rfl (S0.cmp rfl rfl rfl) rfl <| w0 rfl rfl rfl (S0.assign rfl) rfl <| wE <| ?_  -- cutend
          exact ⟨(db, (leaveD S x.i).2, c1, rc1, decide ((leaveD S x.i).1 = (leaveD S x.i).1)), (by first | exact ⟨hd1, hr1, ho2, by simp⟩ | (dsimp only; exact ⟨hd1, hr1, ho2, by simp⟩)), ⟨⟨rfl, rfl, rfl, rfl, rfl, trivial⟩, rfl, rfl⟩, ⟨_, (take1 (atS (atS at0)) (take1 (atS at0) (take1 (atS at0) (take1 (atS at0) take0))))⟩⟩
        · skip
          refine WP.seq <| WP.region <| v0 (S0.cmp rfl rfl rfl) rfl <| v0 (S0.assign rfl) rfl <| vE <| ?_  -- cond
          first | refine WP.condP rfl (fun k2 => ?_) (fun k2 => ?_) | refine WP.condN rfl (fun k2 => ?_) (fun k2 => ?_) | refine WP.cond rfl (fun k2 => ?_) (fun k2 => ?_)
          · skip
            have ho2 := ho.ask x.i x.f x.on
            skip
            refine WP.drawP [(0, none), (1, none), (2, none), (3, none), (4, none), (5, none), (6, none), (8, none), (9, none), (10, none), (11, none), (12, none), (13, none), (14, none), (7, none), (15, none), (16, none), (17, none)] mixed (by kernel_rfl) (by kernel_rfl) (by kernel_rfl) (take1 at0 take0) <| w0 rfl rfl rfl (S0.move rfl) rfl <| w0 rfl rfl rfl (S0.fieldAddr rfl) rfl <| w0 rfl rfl rfl (S0.load rfl rfl) rfl <| w0 rfl rfl rfl (S0.fieldAddr rfl) rfl <| w0 rfl rfl rfl (S0.load rfl rfl) rfl <| w0 rfl rfl rfl (S0.fieldAddr rfl) rfl <| w0 rfl rfl rfl (S0.load rfl rfl) rfl <| w0 rfl rfl rfl (S0.move rfl) rfl <| w0 rfl rfl rfl (S0.fieldAddr rfl) rfl <| w0 rfl rfl rfl (S0.load rfl rfl) rfl <| w0 rfl rfl rfl (S0.fieldAddr rfl) rfl <| w0 rfl rfl rfl (S0.load rfl rfl) rfl <| w0 rfl rfl rfl (S0.fieldAddr rfl) rfl <| w0 rfl rfl rfl (S0.load rfl rfl) rfl <| ?_  -- op t70 := call F15{(*rivulet/device.Devices).Ask}(t63, t65, t67, t69)
            refine wc rfl rfl rfl rfl (S1.callF rfl (ask_spec hd ho x.i (f := x.f) (by omega) x.on) (take1 at0 take0)) rfl ?_
            rintro _ _ ⟨c1, hd1, rfl, rfl⟩
            refine wapp ?_
            -- (nothing to walk: op t78 := call F16{(*rivulet/rivuletref19.Devices).Ask}(t71, t73, t75, t77))
            refine wc rfl rfl rfl rfl (S1.callF rfl (rask_spec hr ho x.i (f := x.f) (by omega) x.on) (take1 (atS at0) take0)) rfl ?_
            rintro _ _ ⟨rc1, hr1, rfl, rfl⟩
            refine wapp ?_
            refine w0 rfl rfl rfl (S0.cmp rfl rfl rfl) rfl <| w0 rfl rfl rfl (S0.assign rfl) rfl <| wE <| ?_  -- cutend
            exact ⟨(db, (askD S x.i x.f x.on).2, c1, rc1, decide ((askD S x.i x.f x.on).1 = (askD S x.i x.f x.on).1)), (by first | exact ⟨hd1, hr1, ho2, by simp⟩ | (dsimp only; exact ⟨hd1, hr1, ho2, by simp⟩)), ⟨⟨rfl, rfl, rfl, rfl, rfl, trivial⟩, rfl, rfl⟩, ⟨_, (take1 (atS (atS at0)) (take1 (atS at0) (take1 (atS at0) (take1 (atS at0) take0))))⟩⟩
          · skip
            refine WP.seq <| WP.region <| v0 (S0.cmp rfl rfl rfl) rfl <| v0 (S0.assign rfl) rfl <| vE <| ?_  -- cond
            first | refine WP.condP rfl (fun k3 => ?_) (fun k3 => ?_) | refine WP.condN rfl (fun k3 => ?_) (fun k3 => ?_) | refine WP.cond rfl (fun k3 => ?_) (fun k3 => ?_)
            · skip
              have ho2 := ho.offer x.e
              have hfl : (offerD S x.e).1.length ≤ 1000 := by
                unfold offerD
                have h9 := List.length_filter_le (fun z => takesD z x.e) S
                have h8 := ho.len
                split
                · simp only [List.length_map]; omega
                · simp
              skip
              refine WP.drawP [(0, none), (1, none), (2, none), (4, none), (5, none), (6, none), (3, none), (7, none), (8, none), (9, none)] mixed (by kernel_rfl) (by kernel_rfl) (by kernel_rfl) (take1 at0 take0) <| w0 rfl rfl rfl (S0.move rfl) rfl <| w0 rfl rfl rfl (S0.fieldAddr rfl) rfl <| w0 rfl rfl rfl (S0.loadAL rfl) rfl <| w0 rfl rfl rfl (S0.move rfl) rfl <| w0 rfl rfl rfl (S0.fieldAddr rfl) rfl <| w0 rfl rfl rfl (S0.loadAL rfl) rfl <| ?_  -- op t85 := call F18{(*rivulet/device.Devices).Offer}(t82, t84)
              refine wc rfl rfl rfl rfl (S1.callF rfl (offer_spec hd ho (e := x.e) hxl.2.1) (take1 at0 take0)) rfl ?_
              rintro v1 _ ⟨c1, q1, hd1, hs1, rfl⟩
              refine wapp ?_
              -- (nothing to walk: op t89 := call F19{(*rivulet/rivuletref19.Devices).Offer}(t86, t88))
              refine wc rfl rfl rfl rfl (S1.callF rfl (roffer_spec hr ho (e := x.e) hxl.2.1) (take1 (atS (atS at0)) take0)) rfl ?_
              rintro v2 _ ⟨rc1, q2, hr1, hs2, rfl⟩
              refine wapp ?_
              -- (nothing to walk: op t90 := call F17{rivulet/rivuletref04.Ints}(t85, t89))
              refine wcd rfl rfl rfl rfl (S1.callF rfl (ints_spec hs1 hs2 (by omega)) (take1 (atS (atS at0)) (take1 at0 take0))) rfl ?_
              refine w0 rfl rfl rfl (S0.assign rfl) rfl <| wE <| ?_  -- cutend
              exact ⟨(db, (offerD S x.e).2, c1, rc1, decide ((offerD S x.e).1 = (offerD S x.e).1)), (by first | exact ⟨hd1, hr1, ho2, by simp⟩ | (dsimp only; exact ⟨hd1, hr1, ho2, by simp⟩)), ⟨⟨rfl, rfl, rfl, rfl, rfl, trivial⟩, rfl, rfl⟩, ⟨_, (take1 (atS (atS (atS (atS at0)))) (take1 (atS (atS (atS at0))) (take1 (atS (atS (atS at0))) (take1 (atS (atS (atS at0))) take0))))⟩⟩
            · skip
              refine WP.seq <| WP.region <| v0 (S0.move rfl) rfl <| ?_  -- op t32 := call F21{(*rivulet/device.Devices).Save}(t31)
              refine vcd (S1.callF rfl (save_spec hd ho) (take1 (atS at0) take0)) rfl ?_
              -- (nothing to walk: op t33 := call F20{rivulet/device.Load}(t32))
              have hsl := save_le ho
              refine vc (S1.callF rfl (load_spec (s := saveD S) (by omega)) take0) rfl ?_
              rintro _ _ (⟨S', db2, c2, j2, hl2, ho2, hd2, rfl, rfl⟩ | ⟨j2, hl2, rfl, rfl⟩)
              refine app ?_
              · rw [load_save ho] at hl2
                cases hl2
                refine v0 (S0.move rfl) rfl <| v0 (S0.extract rfl rfl) rfl <| v0 (S0.extract rfl rfl) rfl <| v0 (S0.assign rfl) rfl <| v0 (S0.assign rfl) rfl <| vE <| WP.seq <| WP.region <| v0 (S0.move rfl) rfl <| v0 (S0.cmp rfl rfl rfl) rfl <| v0 (S0.assign rfl) rfl <| vE <| WP.region <| v0 (S0.move rfl) rfl <| v0 (S0.assign rfl) rfl <| vE <| ?_  -- cutend
                exact ⟨(db2, S, c2, rc, decide ((0 : Int) = 0)), (by first | exact ⟨hd2, hr, ho, by simp⟩ | (dsimp only; exact ⟨hd2, hr, ho, by simp⟩)), ⟨⟨rfl, rfl, rfl, rfl, rfl, trivial⟩, rfl, rfl⟩, ⟨_, (take1 at0 (take1 (atS (atS (atS at0))) (take1 (atS (atS (atS at0))) (take1 (atS (atS (atS at0))) take0))))⟩⟩
              · rw [load_save ho] at hl2; cases hl2
    · skip
      obtain ⟨db2, S2, c2, rc2, u⟩ := st
      obtain ⟨hd2, hr2, ho2, hu⟩ := hinv
      dsimp only at hd2 hr2 ho2 hu ⊢
      subst hu
      refine WP.seq <| WP.region <| v0 (S0.move rfl) rfl <| v0 (S0.not rfl) rfl <| v0 (S0.move rfl) rfl <| ?_  -- guard t93 (wants False) at t94 := move t4 [if #2=False]
      refine csFh (t := 93) rfl (rfl) ?_
      refine gT rfl <| v0 (S0.move rfl) rfl <| gT rfl <| v0 (S0.nilP rfl rfl rfl rfl) rfl <| v0 (S0.pickF rfl rfl) rfl <| v0 (S0.move rfl) rfl <| ?_  -- guard t97 (wants False) at t98 := move t4 [if #6=False]
      refine csFh (t := 97) rfl (rfl) ?_
      refine gT rfl <| v0 (S0.move rfl) rfl <| gT rfl <| v0 (S0.move rfl) rfl <| ?_  -- op t100 := call F22{rivulet/rivuletlaw19.same}(t98, t99) [if #6=False]
      refine gT rfl <| vcd (S1.callF rfl (sameD_spec hd2 hr2 ho2) (take1 at0 (take1 at0 take0))) rfl ?_
      refine gT rfl <| v0 (S0.not rfl) rfl <| v0 (S0.pickF rfl rfl) rfl <| vE <| ?_  -- cond
      refine WP.condFh rfl (rfl) ?_
      refine WP.skip <| WP.region <| v0 (S0.move rfl) rfl <| v0 (S0.ari rfl rfl rfl (wrap_i64 (by omega))) rfl <| v0 (S0.assign rfl) rfl <| vE <| ?_  -- roundend
      exact ⟨(i + 1, db2, S2, c2, rc2), (by first | exact ⟨hlt, hd2, hr2, ho2⟩ | (dsimp only; exact ⟨hlt, hd2, hr2, ho2⟩)), (show M.length - (i + 1) < M.length - i by omega), ⟨⟨rfl, rfl, rfl, rfl, trivial⟩, rfl, rfl⟩, ⟨_, (take1 at0 (take1 at0 (take1 at0 (take1 at0 take0))))⟩⟩
  · skip
    refine WP.exit <| WP.seq <| WP.region <| ?_  -- op t103 := call F23{rivulet/rivuletlaw19.fixed}()
    refine vcd (S1.callF rfl (fixed_spec) take0) rfl ?_
    refine v0 (S0.assign rfl) rfl <| vE <| WP.ret <| ?_  -- ret
    refine Leaves.drop (take1 (atS (atS (atS at0))) take0) ?_
    refine r1 rfl rfl ?_
    exact ⟨rfl, rfl⟩
end Go.Proofs.YtanecnnfpdhadaaGreatDoor
/- L6 -/
namespace Go.Proofs.YtanecnnfpdhadaaGreatDoor
open Go

/-- no mark goes back -/
def Keeps (a b : List MkT) : Prop := ∀ x ∈ a, ∃ y ∈ b, y.1 = x.1 ∧ x.2 ≤ y.2
theorem Keeps.refl (a : List MkT) : Keeps a a := fun x hx => ⟨x, hx, rfl, Int.le_refl _⟩
theorem mrk_some {S : DS} {i : Int} {y : Dv} (h : findD S i = some y) : mrkD S i = y.M := by unfold mrkD; rw [h]
theorem mrk_none {S : DS} {i : Int} (h : findD S i = none) : mrkD S i = [] := by unfold mrkD; rw [h]
theorem flt_some {S : DS} {i : Int} {y : Dv} (h : findD S i = some y) : fltD S i = y.F := by unfold fltD; rw [h]
theorem flt_none {S : DS} {i : Int} (h : findD S i = none) : fltD S i = [] := by unfold fltD; rw [h]
theorem keeps_none {S S' : DS} {q : Int} (h : findD S q = none) : Keeps (mrkD S q) (mrkD S' q) := by rw [mrk_none h]; intro x hx; cases hx
theorem keeps_same {S S' : DS} {q : Int} (h : findD S' q = findD S q) : Keeps (mrkD S q) (mrkD S' q) := by
  unfold mrkD; rw [h]; exact Keeps.refl _
theorem find_join (S : DS) (j : Int) {q : Int} (h : findD S q ≠ none) : findD (joinD S j).2 q = findD S q := by
  unfold joinD
  by_cases h1 : j < 0 ∨ 1099511627776 < j
  · rw [if_pos h1]
  · rw [if_neg h1]
    by_cases h2 : (findD S j).isSome = true
    · rw [if_pos h2]
    · rw [if_neg h2]
      by_cases h3 : 16 ≤ S.length
      · rw [if_pos h3]
      · rw [if_neg h3]
        have h2 : findD S j = none := by simpa using h2
        show findD (insD S ⟨j, [], []⟩) q = _
        rw [find_ins (y := ⟨j, [], []⟩) h2, if_neg (fun e => h (by rw [e]; exact h2))]
theorem find_leave (S : DS) {j q : Int} (h : j ≠ q) : findD (leaveD S j).2 q = findD S q := by
  unfold leaveD
  split
  · show findD (delD S j) q = _
    rw [find_del, if_neg fun e => h e.symm]
  · rfl
theorem find_ask (S : DS) (j : Int) (f : Str) (on : Bool) (q : Int) : findD (askD S j f on).2 q = if q = j then (findD S j).map fun y => ⟨y.i, (askF y.F f on).2, y.M⟩ else findD S q := by
  unfold askD
  cases h : findD S j with
  | none =>
    by_cases e : q = j
    · subst e; simp [h]
    · simp [e]
  | some y =>
    have hi := (find_mem h).2
    show findD (setD S ⟨y.i, (askF y.F f on).2, y.M⟩) q = _
    rw [find_set (by simp only; rw [hi, h]; simp)]
    simp only [hi, Option.map_some]
theorem keeps_ask (S : DS) (j : Int) (f : Str) (on : Bool) (q : Int) : Keeps (mrkD S q) (mrkD (askD S j f on).2 q) := by
  have h := find_ask S j f on q
  by_cases e : q = j
  · subst e
    rw [if_pos rfl] at h
    cases hf : findD S q with
    | none => exact keeps_none hf
    | some y =>
      rw [hf] at h
      rw [mrk_some hf, mrk_some h]
      exact Keeps.refl _
  · rw [if_neg e] at h; exact keeps_same h
theorem find_map (S : DS) (f : Dv → Dv) (hf : ∀ x, (f x).i = x.i) (q : Int) : findD (S.map f) q = (findD S q).map f := by
  induction S with
  | nil => rfl
  | cons x S ih =>
    simp only [List.map_cons, findD, hf]
    by_cases e : x.i = q
    · simp [e]
    · simp only [e, if_false]; exact ih
theorem find_offer (S : DS) (e : Ev) (q : Int) : findD (offerD S e).2 q = if rightE e = true ∧ 0 < e.e then (findD S q).map fun x => gotD x e else findD S q := by
  unfold offerD
  by_cases h : rightE e = true ∧ 0 < e.e
  · rw [if_pos h, if_pos h]
    exact find_map S (fun x => gotD x e) (fun x => gotD_i x e) q
  · rw [if_neg h, if_neg h]
theorem keeps_got {y : Dv} (hy : DvOk y) (e : Ev) : Keeps y.M (gotD y e).M := by
  unfold gotD
  by_cases ht : takesD y e = true
  · rw [if_pos ht]
    obtain ⟨hris, -, -⟩ := sortedM_iff.1 hy.ms
    intro x hx
    simp only [takesD, Bool.and_eq_true, decide_eq_true_eq] at ht
    by_cases e1 : x.1 = e.o
    · refine ⟨(e.o, e.s), by simp [setMk], e1.symm, ?_⟩
      have := mkO_of hris hx
      rw [e1] at this
      rw [this] at ht
      simp only [Option.getD_some] at ht ⊢
      omega
    · refine ⟨x, ?_, rfl, Int.le_refl _⟩
      unfold setMk
      simp only [List.mem_append, List.mem_cons, List.mem_filter, decide_eq_true_eq]
      by_cases e2 : x.1 < e.o
      · exact .inl ⟨hx, e2⟩
      · exact .inr (.inr ⟨hx, by omega⟩)
  · rw [if_neg ht]; exact Keeps.refl _
theorem keeps_offer {S : DS} (ho : DevOk S) (e : Ev) (q : Int) : Keeps (mrkD S q) (mrkD (offerD S e).2 q) := by
  have h := find_offer S e q
  by_cases hc : rightE e = true ∧ 0 < e.e
  · rw [if_pos hc] at h
    cases hf : findD S q with
    | none => exact keeps_none hf
    | some y =>
      rw [hf] at h
      rw [mrk_some hf, mrk_some h]
      exact keeps_got (ho.all y (find_mem hf).1) e
  · rw [if_neg hc] at h; exact keeps_same h
/-- who is given it -/
theorem given_iff {S : DS} (ho : DevOk S) (e : Ev) (q : Int) : q ∈ (offerD S e).1 ↔ (rightE e = true ∧ 0 < e.e) ∧ letsS (fltD S q) e.t = true ∧ (mkO (mrkD S q) e.o).getD 0 < e.s ∧ ((mkO (mrkD S q) e.o).isSome = true ∨ (mrkD S q).length < 32) := by
  unfold offerD
  by_cases hc : rightE e = true ∧ 0 < e.e
  · rw [if_pos hc]
    simp only [List.mem_map, List.mem_filter, hc, and_self, true_and]
    constructor
    · rintro ⟨y, ⟨hy, ht⟩, rfl⟩
      have hf := find_of ho.asc hy
      rw [flt_some hf, mrk_some hf]
      simpa [takesD] using ht
    · intro h
      cases hf : findD S q with
      | none => rw [flt_none hf] at h; simp [letsS] at h
      | some y =>
        rw [flt_some hf, mrk_some hf] at h
        obtain ⟨hy, hi⟩ := find_mem hf
        exact ⟨y, ⟨hy, by simpa [takesD] using h⟩, hi⟩
  · rw [if_neg hc]
    simp only [List.not_mem_nil, false_iff]
    exact fun h => hc h.1
theorem mrk_sorted {S : DS} (ho : DevOk S) (q : Int) : sortedM (mrkD S q) = true := by
  unfold mrkD
  cases hf : findD S q with
  | none => rfl
  | some y => exact (ho.all y (find_mem hf).1).ms
theorem flt_len {S : DS} (ho : DevOk S) (q : Int) : (fltD S q).length ≤ 8 ∧ ∀ f ∈ fltD S q, f.length ≤ 1000 := by
  unfold fltD
  cases hf : findD S q with
  | none => simp
  | some y =>
    have hy := ho.all y (find_mem hf).1
    exact ⟨hy.lF, fun f hm => by have := filt_len (hy.fF f hm); omega⟩
theorem offer_len {S : DS} (ho : DevOk S) (e : Ev) : (offerD S e).1.length ≤ 16 := by
  unfold offerD
  have h9 := List.length_filter_le (fun z => takesD z e) S
  have h8 := ho.len
  split
  · simp only [List.length_map]; omega
  · simp
end Go.Proofs.YtanecnnfpdhadaaGreatDoor
/- L7 -/
namespace Go.Proofs.YtanecnnfpdhadaaGreatDoor
open Go

theorem mkO_snoc {a : List MkT} {x : MkT} {o : Int} (h : ∀ y ∈ a, y.1 ≠ x.1) : (mkO (a ++ [x]) o).getD 0 = if x.1 = o then x.2 else (mkO a o).getD 0 := by
  rw [mkO_app]
  by_cases e : x.1 = o
  · have : mkO a o = none := mkO_none.2 fun hm => by
      obtain ⟨y, hy, hyo⟩ := List.mem_map.1 hm
      exact h y hy (by rw [hyo, e])
    rw [this, if_pos e]
    simp [mkO, e]
  · rw [if_neg e]
    simp only [mkO, if_neg e]
    cases mkO a o <;> rfl
set_option maxRecDepth 100000 in
set_option maxHeartbeats 2000000 in
theorem deviceRises_walk (W : World) (lv : Value) (hl : ArgF W opK lv) (q0 : Int) : FN Tryz.prog 5 [lv, .int .i64 q0] [whole W] (fun v h => v = .bool true ∧ h = [whole W]) := by
  obtain ⟨l0, hrl⟩ := argOps hl
  have hll := cutOs_len l0
  have hlx := cutOs_mem (l := l0)
  obtain ⟨q, hq⟩ : ∃ z, bitsI .and .i64 q0 3 = some z := ⟨_, rfl⟩
  refine FN.intro 219 [(0, lv), (1, .int .i64 q0)] Tryz.func5 rfl (enters Tryz.func5 (by kernel_rfl) rfl) Tryz.ntmps5 rfl rfl ?_
  refine WP.seq <| WP.region <| v0 (S0.assign rfl) rfl <| vE <| WP.seq <| WP.region <| v0 (S0.move rfl) rfl <| ?_  -- op t21 := call F9{rivulet/rivuletlaw19.Cut}(t20)
  refine vc (S1.callF rfl (cut_spec hrl) (take1 at0 take0)) rfl ?_
  rintro _ _ ⟨row, hs, rfl⟩
  refine app ?_
  generalize cutOs l0 = M at hll hlx hs
  obtain ⟨ma, mcap, rfl, hmcap, hrow⟩ := IsSl.elems (k := 8) enO_len hs
  -- (nothing to walk: op t22 := call F10{rivulet/device.New}())
  refine vc (S1.callF rfl (new_spec) take0) rfl ?_
  rintro _ _ ⟨db, c0, rfl, hd0, rfl⟩
  refine app ?_
  refine v0 (S0.assign rfl) rfl <| v0 (S0.assign rfl) rfl <| vE <| WP.seq <| WP.region <| v0 (S0.move rfl) rfl <| ?_  -- op t24 := and t23 3:i64 :3
  refine v0 (S0.bits rfl rfl hq) rfl <| ?_
  refine v0 (S0.assign rfl) rfl <| vE <| WP.seq <| WP.seq <| WP.region <| v0 (S0.move rfl) rfl <| v0 (S0.nilP rfl rfl rfl rfl) rfl <| vE <| ?_  -- cond
  refine WP.condFh rfl (rfl) ?_
  refine WP.skip <| WP.seq <| WP.seq <| WP.region <| v0 (S0.assign rfl) rfl <| vE <| WP.block <| ?_  -- Code.loop
  refine WP.loop (fun st : Nat × DS × List Blk => st.1 ≤ M.length ∧ IsDev db st.2.1 st.2.2 ∧ DevOk st.2.1) (fun st : Nat × DS × List Blk => [(1, .int .i64 q), (5, .slice ma M.length mcap), (6, .pointer (some ⟨db, 0, none⟩)), (7, .int .i64 (st.1 : Int))]) (fun st : Nat × DS × List Blk => [st.2.2, row, whole W]) (fun st : Nat × DS × List Blk => M.length - st.1) ((0, [], c0)) (⟨Nat.zero_le _, hd0, DevOk.nil⟩) ⟨rfl, rfl, rfl, rfl, trivial⟩ ⟨_, (take1 at0 (take1 at0 (take1 at0 take0)))⟩ (fun st hinv => ?_) 
  obtain ⟨i, S, c⟩ := st
  obtain ⟨hi, hd, ho⟩ := hinv
  dsimp only at hi hd ho ⊢
  refine WP.seq <| WP.seq <| WP.region <| v0 (S0.move rfl) rfl <| v0 (S0.move rfl) rfl <| v0 (S0.lenSl rfl) rfl <| v0 (S0.cmp rfl rfl rfl) rfl <| vE <| ?_  -- cond
  first | refine WP.condP rfl (fun h1 => ?_) (fun h1 => ?_) | refine WP.condN rfl (fun h1 => ?_) (fun h1 => ?_) | refine WP.cond rfl (fun h1 => ?_) (fun h1 => ?_)
  · skip
    have hlt : i < M.length := by omega
    rcases hrow with ⟨e, -⟩ | ⟨b1, sp1, rfl, rfl, hsp1⟩
    · rw [e] at hlt; simp at hlt
    have hx : M[i]? = some M[i] := by simp [hlt]
    have hxl := hlx _ (List.getElem_mem hlt)
    generalize M[i] = x at hx hxl
    have gA : ((M.flatMap enO ++ sp1).drop (i * 9)).take 9 = enO x := flat_take enO_len sp1 M i _ hx
    obtain ⟨j, hj⟩ : ∃ z, bitsI .and .i64 x.i 3 = some z := ⟨_, rfl⟩
    obtain ⟨hfl, hfx⟩ := flt_len ho q
    have hso := mrk_sorted ho q
    obtain ⟨hris, hmb, hwl⟩ := sortedM_iff.1 hso
    have hgv := given_iff ho x.e q
    have hkO := keeps_offer ho x.e q
    generalize hWq : mrkD S q = wq at hris hmb hwl hgv hkO hso
    generalize hFq : fltD S q = fq at hfl hfx hgv
    refine WP.skip <| WP.seq <| WP.block <| WP.seq <| WP.region <| v0 (S0.move rfl) rfl <| v0 (S0.move rfl) rfl <| ?_  -- op t35 := indexAddr 22 t33 t34
    refine v0 (S0.indexN (k := 9) rfl rfl hlt) rfl <| ?_
    refine v0 (S0.loadA rfl gA rfl) rfl <| ?_
    refine vn (S1.alloc) rfl fun b8 => vs (S1.storeA rfl rfl rfl) <| vE <| WP.seq <| WP.region <| v0 (S0.move rfl) rfl <| v0 (S0.move rfl) rfl <| ?_  -- op t39 := call F25{(*rivulet/device.Devices).Marks}(t37, t38)
    refine vc (S1.callF rfl (mrks_spec hd ho q) (take1 (atS at0) take0)) rfl ?_
    rintro wv _ ⟨wrow, hws, rfl⟩
    refine app ?_
    rw [hWq] at hws
    obtain ⟨wa, wcap, rfl, hwcap, hwrow⟩ := IsSl.elems (k := 1) enM_len hws
    refine v0 (S0.move rfl) rfl <| v0 (S0.move rfl) rfl <| ?_  -- op t42 := call F26{(*rivulet/device.Devices).Filters}(t40, t41)
    refine vc (S1.callF rfl (filters_spec hd ho q) (take1 (atS at0) take0)) rfl ?_
    rintro fv _ ⟨frow, hfs, rfl⟩
    refine app ?_
    rw [hFq] at hfs
    obtain ⟨fa, fcap, rfl, hfcap, -⟩ := hfs.strsE
    refine WO.perm (h' := [c, wrow, frow, [(b8, .cells ⟨enO x⟩ 33 (0, 0))], [(b1, .cells ⟨M.flatMap enO ++ sp1⟩ 33 (0, 0))], whole W]) (k := []) (pm fun a_ => by (try simp only [List.flatten_append, List.flatten_cons, List.flatten_nil, List.append_nil, List.cons_append, List.nil_append, List.append_assoc, nOf_app, nOf_cons, nOf_nil, Nat.add_zero, Nat.zero_add, List.map_append, List.map_cons, List.map_nil, cel, sv, enO]); first | done | omega) ?_
    refine v0 (S0.assign rfl) rfl <| v0 (S0.assign rfl) rfl <| vE <| ?_  -- cut
    refine WP.cutS (fun st : DS × List Blk => IsDev db st.1 st.2 ∧ DevOk st.1 ∧ Keeps wq (mrkD st.1 q)) (fun st : DS × List Blk => [(1, .int .i64 q), (5, .slice (some ⟨b1, 0, none⟩) M.length mcap), (6, .pointer (some ⟨db, 0, none⟩)), (7, .int .i64 (i : Int)), (9, .slice wa wq.length wcap)]) (fun st : DS × List Blk => [st.2, wrow, [(b1, .cells ⟨M.flatMap enO ++ sp1⟩ 33 (0, 0))], whole W]) ?_ (fun st hinv => ?_)
    · refine WP.seq <| WP.region <| v0 (S0.fieldAddr rfl) rfl <| v0 (S0.load rfl rfl) rfl <| vE <| WP.block <| WP.seq <| WP.region <| v0 (S0.cmp rfl rfl rfl) rfl <| v0 (S0.assign rfl) rfl <| vE <| ?_  -- cond
      first | refine WP.condP rfl (fun k0 => ?_) (fun k0 => ?_) | refine WP.condN rfl (fun k0 => ?_) (fun k0 => ?_) | refine WP.cond rfl (fun k0 => ?_) (fun k0 => ?_)
      · skip
        have ho2 := ho.join j
        have hk2 : Keeps wq (mrkD (joinD S j).2 q) := by
          rw [← hWq]
          cases hf : findD S q with
          | none => exact keeps_none hf
          | some y => exact keeps_same (find_join S j (by rw [hf]; simp))
        refine WP.region <| v0 (S0.move rfl) rfl <| v0 (S0.fieldAddr rfl) rfl <| v0 (S0.load rfl rfl) rfl <| ?_  -- op t149 := and t148 3:i64 :3
        refine v0 (S0.bits rfl rfl hj) rfl <| ?_
        -- (nothing to walk: op t150 := call F11{(*rivulet/device.Devices).Join}(t146, t149))
        refine vc (S1.callF rfl (join_spec hd ho j) (take1 at0 take0)) rfl ?_
        rintro _ _ ⟨c1, hd1, rfl, rfl⟩
        refine app ?_
        refine vE <| ?_  -- cutend
        exact ⟨((joinD S j).2, c1), (by first | exact ⟨hd1, ho2, hk2⟩ | (dsimp only; exact ⟨hd1, ho2, hk2⟩)), ⟨⟨rfl, rfl, rfl, rfl, rfl, trivial⟩, rfl, rfl⟩, ⟨_, (take1 at0 (take1 at0 (take1 (atS (atS at0)) (take1 (atS (atS at0)) take0))))⟩⟩
      · skip
        refine WP.seq <| WP.region <| v0 (S0.cmp rfl rfl rfl) rfl <| v0 (S0.assign rfl) rfl <| vE <| ?_  -- cond
        first | refine WP.condP rfl (fun k1 => ?_) (fun k1 => ?_) | refine WP.condN rfl (fun k1 => ?_) (fun k1 => ?_) | refine WP.cond rfl (fun k1 => ?_) (fun k1 => ?_)
        · skip
          refine WP.seq <| WP.seq <| WP.region <| v0 (S0.fieldAddr rfl) rfl <| v0 (S0.load rfl rfl) rfl <| ?_  -- op t155 := and t154 3:i64 :3
          refine v0 (S0.bits rfl rfl hj) rfl <| ?_
          refine v0 (S0.move rfl) rfl <| v0 (S0.cmp rfl rfl rfl) rfl <| vE <| ?_  -- cond
          first | refine WP.condP rfl (fun k2 => ?_) (fun k2 => ?_) | refine WP.condN rfl (fun k2 => ?_) (fun k2 => ?_) | refine WP.cond rfl (fun k2 => ?_) (fun k2 => ?_)
          · skip
            refine WP.exit <| WP.region <| v0 (S0.move rfl) rfl <| v0 (S0.ari rfl rfl rfl (wrap_i64 (by omega))) rfl <| v0 (S0.assign rfl) rfl <| vE <| ?_  -- roundend
            exact ⟨(i + 1, S, c), (by first | exact ⟨hlt, hd, ho⟩ | (dsimp only; exact ⟨hlt, hd, ho⟩)), (show M.length - (i + 1) < M.length - i by omega), ⟨⟨rfl, rfl, rfl, rfl, trivial⟩, rfl, rfl⟩, ⟨_, (take1 at0 (take1 (atS (atS (atS at0))) (take1 (atS (atS (atS at0))) take0)))⟩⟩
          · skip
            have ho2 := ho.leave j
            have hk2 : Keeps wq (mrkD (leaveD S j).2 q) := by rw [← hWq]; exact keeps_same (find_leave S k2)
            refine WP.skip <| WP.region <| v0 (S0.move rfl) rfl <| v0 (S0.fieldAddr rfl) rfl <| v0 (S0.load rfl rfl) rfl <| ?_  -- op t161 := and t160 3:i64 :3
            refine v0 (S0.bits rfl rfl hj) rfl <| ?_
            -- (nothing to walk: op t162 := call F13{(*rivulet/device.Devices).Leave}(t158, t161))
            refine vc (S1.callF rfl (leave_spec hd j) (take1 at0 take0)) rfl ?_
            rintro _ _ ⟨c1, hd1, rfl, rfl⟩
            refine app ?_
            refine vE <| ?_  -- cutend
            exact ⟨((leaveD S j).2, c1), (by first | exact ⟨hd1, ho2, hk2⟩ | (dsimp only; exact ⟨hd1, ho2, hk2⟩)), ⟨⟨rfl, rfl, rfl, rfl, rfl, trivial⟩, rfl, rfl⟩, ⟨_, (take1 at0 (take1 at0 (take1 (atS (atS at0)) (take1 (atS (atS at0)) take0))))⟩⟩
        · skip
          refine WP.seq <| WP.region <| v0 (S0.cmp rfl rfl rfl) rfl <| v0 (S0.assign rfl) rfl <| vE <| ?_  -- cond
          first | refine WP.condP rfl (fun k2 => ?_) (fun k2 => ?_) | refine WP.condN rfl (fun k2 => ?_) (fun k2 => ?_) | refine WP.cond rfl (fun k2 => ?_) (fun k2 => ?_)
          · skip
            have ho2 := ho.ask j x.f x.on
            have hk2 : Keeps wq (mrkD (askD S j x.f x.on).2 q) := by rw [← hWq]; exact keeps_ask S j x.f x.on q
            refine WP.region <| v0 (S0.move rfl) rfl <| v0 (S0.fieldAddr rfl) rfl <| v0 (S0.load rfl rfl) rfl <| ?_  -- op t168 := and t167 3:i64 :3
            refine v0 (S0.bits rfl rfl hj) rfl <| ?_
            refine v0 (S0.fieldAddr rfl) rfl <| v0 (S0.load rfl rfl) rfl <| v0 (S0.fieldAddr rfl) rfl <| v0 (S0.load rfl rfl) rfl <| ?_  -- op t173 := call F15{(*rivulet/device.Devices).Ask}(t165, t168, t170, t172)
            refine vc (S1.callF rfl (ask_spec hd ho j (f := x.f) (by omega) x.on) (take1 at0 take0)) rfl ?_
            rintro _ _ ⟨c1, hd1, rfl, rfl⟩
            refine app ?_
            refine vE <| ?_  -- cutend
            exact ⟨((askD S j x.f x.on).2, c1), (by first | exact ⟨hd1, ho2, hk2⟩ | (dsimp only; exact ⟨hd1, ho2, hk2⟩)), ⟨⟨rfl, rfl, rfl, rfl, rfl, trivial⟩, rfl, rfl⟩, ⟨_, (take1 at0 (take1 at0 (take1 (atS (atS at0)) (take1 (atS (atS at0)) take0))))⟩⟩
          · skip
            have ho2 := ho.offer x.e
            have hol := offer_len ho x.e
            refine WP.seq <| WP.region <| v0 (S0.assign rfl) rfl <| v0 (S0.assign rfl) rfl <| vE <| WP.seq <| WP.seq <| WP.region <| v0 (S0.assign rfl) rfl <| vE <| WP.block <| ?_  -- Code.loop
            refine WP.loop (fun st : Nat × Int => st.1 ≤ wq.length ∧ st.2 = (mkO (wq.take st.1) x.e.o).getD 0) (fun st : Nat × Int => [(1, .int .i64 q), (5, .slice (some ⟨b1, 0, none⟩) M.length mcap), (6, .pointer (some ⟨db, 0, none⟩)), (7, .int .i64 (i : Int)), (8, .pointer (some ⟨b8, 0, none⟩)), (9, .slice wa wq.length wcap), (10, .slice fa fq.length fcap), (11, .bool false), (12, .int .i64 st.2), (13, .int .i64 (st.1 : Int))]) (fun st : Nat × Int => [c, wrow, frow, [(b8, .cells ⟨enO x⟩ 33 (0, 0))], [(b1, .cells ⟨M.flatMap enO ++ sp1⟩ 33 (0, 0))], whole W]) (fun st : Nat × Int => wq.length - st.1) ((0, 0)) (⟨Nat.zero_le _, rfl⟩) ⟨rfl, rfl, rfl, rfl, rfl, rfl, rfl, rfl, rfl, rfl, trivial⟩ ⟨_, (take1 at0 (take1 at0 (take1 at0 (take1 at0 (take1 at0 (take1 at0 take0))))))⟩ (fun st hinv => ?_) 
            obtain ⟨k, mk⟩ := st
            obtain ⟨hk, hmk⟩ := hinv
            dsimp only at hk hmk ⊢
            refine WP.seq <| WP.seq <| WP.region <| v0 (S0.move rfl) rfl <| v0 (S0.move rfl) rfl <| v0 (S0.lenSl rfl) rfl <| v0 (S0.cmp rfl rfl rfl) rfl <| vE <| ?_  -- cond
            first | refine WP.condP rfl (fun h2 => ?_) (fun h2 => ?_) | refine WP.condN rfl (fun h2 => ?_) (fun h2 => ?_) | refine WP.cond rfl (fun h2 => ?_) (fun h2 => ?_)
            · skip
              have hlt2 : k < wq.length := by omega
              rcases hwrow with ⟨e, -⟩ | ⟨b2, sp2, rfl, rfl, hsp2⟩
              · rw [e] at hlt2; simp at hlt2
              have hz : wq[k]? = some wq[k] := by simp [hlt2]
              generalize wq[k] = z at hz
              have hbef := ris_before hris hz
              have g0 := flat_get enM_len sp2 wq k 0 z hz (by decide)
              have g1 := flat_get enM_len sp2 wq k 1 z hz (by decide)
              have hsn := mkO_snoc (a := wq.take k) (x := z) (o := x.e.o) fun y hy => by have := hbef y hy; omega
              rw [← take_one hz] at hsn
              skip
              refine WP.skip <| WP.seq <| WP.block <| WP.seq <| WP.drawP [(0, none), (1, none), (2, none), (3, none), (4, none), (5, none), (6, none), (7, none), (8, none)] mixed (by kernel_rfl) (by kernel_rfl) (by kernel_rfl) (take1 (atS at0) (take1 (atS (atS at0)) take0)) <| w0 rfl rfl rfl (S0.move rfl) rfl <| w0 rfl rfl rfl (S0.move rfl) rfl <| ?_  -- op t53 := indexAddr 49 t51 t52
              refine w0 rfl rfl rfl (S0.indexN (k := 2) rfl rfl hlt2) rfl <| ?_
              refine w0 rfl rfl rfl (S0.fieldAddr rfl) rfl <| ?_  -- limit
              refine w0 rfl rfl rfl (S0.load (v := .int .i64 z.1) rfl g0) rfl <| ?_
              refine w0 rfl rfl rfl (S0.fieldAddr rfl) rfl <| w0 rfl rfl rfl (S0.fieldAddr rfl) rfl <| w0 rfl rfl rfl (S0.load rfl rfl) rfl <| w0 rfl rfl rfl (S0.cmp rfl rfl rfl) rfl <| wE <| ?_  -- cond
              first | refine WP.condP rfl (fun h3 => ?_) (fun h3 => ?_) | refine WP.condN rfl (fun h3 => ?_) (fun h3 => ?_) | refine WP.cond rfl (fun h3 => ?_) (fun h3 => ?_)
              · skip
                rw [if_pos h3] at hsn
                refine WP.region <| v0 (S0.move rfl) rfl <| v0 (S0.move rfl) rfl <| ?_  -- op t62 := indexAddr 49 t60 t61
                refine v0 (S0.indexN (k := 2) rfl rfl hlt2) rfl <| ?_
                refine v0 (S0.fieldAddr rfl) rfl <| ?_  -- limit
                refine v0 (S0.load (v := .int .i64 z.2) rfl g1) rfl <| ?_
                refine v0 (S0.assign rfl) rfl <| vE <| WP.region <| v0 (S0.move rfl) rfl <| v0 (S0.ari rfl rfl rfl (wrap_i64 (by omega))) rfl <| v0 (S0.assign rfl) rfl <| vE <| ?_  -- roundend
                exact ⟨(k + 1, z.2), (by first | exact ⟨hlt2, hsn.symm⟩ | (dsimp only; exact ⟨hlt2, hsn.symm⟩)), (show wq.length - (k + 1) < wq.length - k by omega), ⟨⟨rfl, rfl, rfl, rfl, rfl, rfl, rfl, rfl, rfl, rfl, trivial⟩, rfl, rfl⟩, ⟨_, (take1 (atS (atS at0)) (take1 at0 (take1 (atS at0) (take1 at0 (take1 at0 (take1 at0 take0))))))⟩⟩
              · skip
                rw [if_neg h3] at hsn
                refine WP.skip <| WP.region <| v0 (S0.move rfl) rfl <| v0 (S0.ari rfl rfl rfl (wrap_i64 (by omega))) rfl <| v0 (S0.assign rfl) rfl <| vE <| ?_  -- roundend
                exact ⟨(k + 1, mk), (by first | exact ⟨hlt2, by rw [hsn]; exact hmk⟩ | (dsimp only; exact ⟨hlt2, by rw [hsn]; exact hmk⟩)), (show wq.length - (k + 1) < wq.length - k by omega), ⟨⟨rfl, rfl, rfl, rfl, rfl, rfl, rfl, rfl, rfl, rfl, trivial⟩, rfl, rfl⟩, ⟨_, (take1 (atS (atS at0)) (take1 at0 (take1 (atS at0) (take1 at0 (take1 at0 (take1 at0 take0))))))⟩⟩
            · skip
              have hk3 : k = wq.length := by omega
              subst hk3
              rw [List.take_length] at hmk
              rw [← hmk] at hgv
              refine WP.exit <| WP.seq <| WP.region <| v0 (S0.move rfl) rfl <| v0 (S0.fieldAddr rfl) rfl <| v0 (S0.loadAL rfl) rfl <| ?_  -- op t68 := call F18{(*rivulet/device.Devices).Offer}(t65, t67)
              refine vc (S1.callF rfl (offer_spec hd ho (e := x.e) hxl.2.1) (take1 at0 take0)) rfl ?_
              rintro gv _ ⟨c1, grow, hd1, hgs, rfl⟩
              refine app ?_
              obtain ⟨ga, gcap, rfl, hgcap, hgrow⟩ := hgs.intsE
              generalize (offerD S x.e).1 = G at hgs hgcap hgrow hgv hol
              refine v0 (S0.assign rfl) rfl <| vE <| WP.seq <| WP.seq <| WP.region <| v0 (S0.assign rfl) rfl <| vE <| WP.block <| ?_  -- Code.loop
              refine WP.loop (fun st : Nat × Bool => st.1 ≤ G.length ∧ st.2 = decide (q ∈ G.take st.1)) (fun st : Nat × Bool => [(1, .int .i64 q), (5, .slice (some ⟨b1, 0, none⟩) M.length mcap), (6, .pointer (some ⟨db, 0, none⟩)), (7, .int .i64 (i : Int)), (8, .pointer (some ⟨b8, 0, none⟩)), (9, .slice wa wq.length wcap), (10, .slice fa fq.length fcap), (11, .bool st.2), (12, .int .i64 mk), (14, .slice ga G.length gcap), (15, .int .i64 (st.1 : Int))]) (fun st : Nat × Bool => [grow, c1, wrow, frow, [(b8, .cells ⟨enO x⟩ 33 (0, 0))], [(b1, .cells ⟨M.flatMap enO ++ sp1⟩ 33 (0, 0))], whole W]) (fun st : Nat × Bool => G.length - st.1) ((0, false)) (⟨Nat.zero_le _, by simp⟩) ⟨rfl, rfl, rfl, rfl, rfl, rfl, rfl, rfl, rfl, rfl, rfl, trivial⟩ ⟨_, (take1 at0 (take1 at0 (take1 at0 (take1 at0 (take1 at0 (take1 at0 (take1 at0 take0)))))))⟩ (fun st hinv => ?_) 
              obtain ⟨k, gb⟩ := st
              obtain ⟨hk, hgb⟩ := hinv
              dsimp only at hk hgb ⊢
              refine WP.seq <| WP.seq <| WP.region <| v0 (S0.move rfl) rfl <| v0 (S0.move rfl) rfl <| v0 (S0.lenSl rfl) rfl <| v0 (S0.cmp rfl rfl rfl) rfl <| vE <| ?_  -- cond
              first | refine WP.condP rfl (fun h3 => ?_) (fun h3 => ?_) | refine WP.condN rfl (fun h3 => ?_) (fun h3 => ?_) | refine WP.cond rfl (fun h3 => ?_) (fun h3 => ?_)
              · skip
                have hlt2 : k < G.length := by omega
                rcases hgrow with ⟨e, -⟩ | ⟨b2, sp2, rfl, rfl, hsp2⟩
                · rw [e] at hlt2; simp at hlt2
                have hz : G[k]? = some G[k] := by simp [hlt2]
                generalize G[k] = z at hz
                have htk := take_one hz
                refine WP.skip <| WP.seq <| WP.block <| WP.region <| v0 (S0.move rfl) rfl <| v0 (S0.move rfl) rfl <| ?_  -- guard t76 (wants False) at t77 := move t14 [if #1=False]
                skip
                cases gb with
                | true =>
                  skip
                  refine csTh (t := 76) rfl (rfl) ?_
                  refine gF rfl rfl <| gF rfl rfl <| gF rfl rfl <| gF rfl rfl <| gF rfl rfl <| gF rfl rfl <| v0 (S0.pickT rfl rfl) rfl <| v0 (S0.assign rfl) rfl <| vE <| WP.region <| v0 (S0.move rfl) rfl <| v0 (S0.ari rfl rfl rfl (wrap_i64 (by omega))) rfl <| v0 (S0.assign rfl) rfl <| vE <| ?_  -- roundend
                  exact ⟨(k + 1, true), (by first | exact ⟨hlt2, by rw [htk]; symm; simp at hgb ⊢; exact .inl hgb⟩ | (dsimp only; exact ⟨hlt2, by rw [htk]; symm; simp at hgb ⊢; exact .inl hgb⟩)), (show G.length - (k + 1) < G.length - k by omega), ⟨⟨rfl, rfl, rfl, rfl, rfl, rfl, rfl, rfl, rfl, rfl, rfl, trivial⟩, rfl, rfl⟩, ⟨_, (take1 at0 (take1 at0 (take1 at0 (take1 at0 (take1 at0 (take1 at0 (take1 at0 take0)))))))⟩⟩
                | false =>
                  skip
                  refine csFh (t := 76) rfl (rfl) ?_
                  refine gT rfl <| v0 (S0.move rfl) rfl <| gT rfl <| v0 (S0.move rfl) rfl <| ?_  -- op t79 := indexAddr 38 t77 t78 [if #1=False]
                  refine gT rfl <| v0 (S0.index1 rfl rfl hlt2) rfl <| ?_
                  refine gT rfl <| v0 (S0.load rfl (ints_get hz)) rfl <| ?_
                  refine gT rfl <| v0 (S0.move rfl) rfl <| gT rfl <| v0 (S0.cmp rfl rfl rfl) rfl <| v0 (S0.pickF rfl rfl) rfl <| v0 (S0.assign rfl) rfl <| vE <| WP.region <| v0 (S0.move rfl) rfl <| v0 (S0.ari rfl rfl rfl (wrap_i64 (by omega))) rfl <| v0 (S0.assign rfl) rfl <| vE <| ?_  -- roundend
                  exact ⟨(k + 1, decide (z = q)), (by first | exact ⟨hlt2, by rw [htk]; simp at hgb ⊢; simp [hgb, eq_comm]⟩ | (dsimp only; exact ⟨hlt2, by rw [htk]; simp at hgb ⊢; simp [hgb, eq_comm]⟩)), (show G.length - (k + 1) < G.length - k by omega), ⟨⟨rfl, rfl, rfl, rfl, rfl, rfl, rfl, rfl, rfl, rfl, rfl, trivial⟩, rfl, rfl⟩, ⟨_, (take1 at0 (take1 at0 (take1 at0 (take1 at0 (take1 at0 (take1 at0 (take1 at0 take0)))))))⟩⟩
              · skip
                have hk3 : k = G.length := by omega
                subst hk3
                rw [List.take_length] at hgb
                refine WP.exit <| WP.seq <| WP.seq <| WP.region <| v0 (S0.move rfl) rfl <| v0 (S0.move rfl) rfl <| ?_  -- guard t85 (wants True) at t86 := fieldAddr 33 t8 4 [if #1=True]
                skip
                cases gb with
                | true =>
                  skip
                  have hin : q ∈ G := by simpa using hgb.symm
                  obtain ⟨⟨r1', r2'⟩, r3', r4', r5'⟩ := hgv.1 hin
                  refine csTh (t := 85) rfl (rfl) ?_
                  refine gT rfl <| v0 (S0.fieldAddr rfl) rfl <| gT rfl <| v0 (S0.fieldAddr rfl) rfl <| gT rfl <| v0 (S0.load rfl rfl) rfl <| gT rfl <| v0 (S0.move rfl) rfl <| gT rfl <| v0 (S0.cmp rfl rfl rfl) rfl <| gT rfl <| v0 (S0.move rfl) rfl <| ?_  -- guard t91 (wants False) at t92 := fieldAddr 33 t8 4 [if #7=False]
                  refine csFh (t := 91) rfl ((by simp; omega)) ?_
                  refine gT rfl <| v0 (S0.fieldAddr rfl) rfl <| gT rfl <| v0 (S0.fieldAddr rfl) rfl <| gT rfl <| v0 (S0.load rfl rfl) rfl <| gT rfl <| v0 (S0.cmp rfl rfl rfl) rfl <| gT rfl <| v0 (S0.pickF rfl rfl) rfl <| gT rfl <| v0 (S0.move rfl) rfl <| ?_  -- guard t97 (wants False) at t98 := move t10 [if #13=False]
                  refine csFh (t := 97) rfl ((by simp; omega)) ?_
                  refine gT rfl <| v0 (S0.move rfl) rfl <| gT rfl <| v0 (S0.fieldAddr rfl) rfl <| gT rfl <| v0 (S0.fieldAddr rfl) rfl <| gT rfl <| v0 (S0.load rfl rfl) rfl <| ?_  -- op t102 := call F27{rivulet/rivuletref05.Lets}(t98, t101) [if #13=False]
                  refine gT rfl <| vcd (S1.callF rfl (rlets_spec hfs.rdS hfx (show x.e.t.length ≤ 1000 by omega) (by omega)) (take1 (atS (atS (atS at0))) take0)) rfl ?_
                  rw [r3']
                  refine gT rfl <| v0 (S0.not rfl) rfl <| gT rfl <| v0 (S0.pickF rfl rfl) rfl <| gT rfl <| v0 (S0.move rfl) rfl <| ?_  -- guard t105 (wants False) at t106 := fieldAddr 33 t8 4 [if #21=False]
                  refine csFh (t := 105) rfl (rfl) ?_
                  refine gT rfl <| v0 (S0.fieldAddr rfl) rfl <| gT rfl <| v0 (S0.loadAL rfl) rfl <| ?_  -- op t108 := call F28{rivulet/rivuletref06.Right}(t107) [if #21=False]
                  refine gT rfl <| vcd (S1.callF rfl (revRight_spec (x := x.e) hxl.2.1) take0) rfl ?_
                  rw [r1']
                  refine gT rfl <| v0 (S0.not rfl) rfl <| gT rfl <| v0 (S0.pickF rfl rfl) rfl <| v0 (S0.pickT rfl rfl) rfl <| vE <| ?_  -- cond
                  refine WP.condFh rfl (rfl) ?_
                  refine WP.skip <| WP.seq <| WP.region <| v0 (S0.move rfl) rfl <| v0 (S0.not rfl) rfl <| v0 (S0.move rfl) rfl <| ?_  -- guard t114 (wants True) at t115 := fieldAddr 33 t8 4 [if #2=True]
                  refine csFh (t := 114) rfl (rfl) ?_
                  refine gF rfl rfl <| gF rfl rfl <| gF rfl rfl <| v0 (S0.pickF rfl rfl) rfl <| v0 (S0.move rfl) rfl <| gF rfl rfl <| gF rfl rfl <| gF rfl rfl <| gF rfl rfl <| v0 (S0.pickF rfl rfl) rfl <| v0 (S0.move rfl) rfl <| gF rfl rfl <| gF rfl rfl <| gF rfl rfl <| gF rfl rfl <| gF rfl rfl <| v0 (S0.pickF rfl rfl) rfl <| v0 (S0.move rfl) rfl <| gF rfl rfl <| gF rfl rfl <| gF rfl rfl <| gF rfl rfl <| gF rfl rfl <| v0 (S0.pickF rfl rfl) rfl <| v0 (S0.move rfl) rfl <| gF rfl rfl <| gF rfl rfl <| gF rfl rfl <| v0 (S0.pickF rfl rfl) rfl <| vE <| WP.condF rfl <| WP.skip <| ?_  -- cutend
                  exact ⟨((offerD S x.e).2, c1), (by first | exact ⟨hd1, ho2, hkO⟩ | (dsimp only; exact ⟨hd1, ho2, hkO⟩)), ⟨⟨rfl, rfl, rfl, rfl, rfl, trivial⟩, rfl, rfl⟩, ⟨_, (take1 (atS (atS at0)) (take1 (atS (atS at0)) (take1 (atS (atS (atS at0))) (take1 (atS (atS (atS at0))) take0))))⟩⟩
                | false =>
                  skip
                  have hnin : q ∉ G := by simpa using hgb.symm
                  refine csFh (t := 85) rfl (rfl) ?_
                  refine gF rfl rfl <| gF rfl rfl <| gF rfl rfl <| gF rfl rfl <| gF rfl rfl <| gF rfl rfl <| gF rfl rfl <| gF rfl rfl <| gF rfl rfl <| gF rfl rfl <| gF rfl rfl <| gF rfl rfl <| gF rfl rfl <| gF rfl rfl <| gF rfl rfl <| gF rfl rfl <| gF rfl rfl <| gF rfl rfl <| gF rfl rfl <| gF rfl rfl <| gF rfl rfl <| gF rfl rfl <| gF rfl rfl <| gF rfl rfl <| gF rfl rfl <| v0 (S0.pickF rfl rfl) rfl <| vE <| WP.condF rfl <| WP.skip <| WP.seq <| WP.region <| v0 (S0.move rfl) rfl <| v0 (S0.not rfl) rfl <| v0 (S0.move rfl) rfl <| ?_  -- guard t114 (wants True) at t115 := fieldAddr 33 t8 4 [if #2=True]
                  refine csTh (t := 114) rfl (rfl) ?_
                  refine gT rfl <| v0 (S0.fieldAddr rfl) rfl <| gT rfl <| v0 (S0.loadAL rfl) rfl <| ?_  -- op t117 := call F28{rivulet/rivuletref06.Right}(t116) [if #2=True]
                  refine gT rfl <| vcd (S1.callF rfl (revRight_spec (x := x.e) hxl.2.1) take0) rfl ?_
                  refine v0 (S0.pickT rfl rfl) rfl <| v0 (S0.move rfl) rfl <| ?_  -- guard t119 (wants True) at t120 := fieldAddr 33 t8 4 [if #7=True]
                  first | refine csP (t := 119) rfl (fun r1' => ?_) (fun r1' => ?_) | refine csN (t := 119) rfl (fun r1' => ?_) (fun r1' => ?_) | refine cs (t := 119) rfl (fun r1' => ?_) (fun r1' => ?_)
                  · skip
                    refine gT rfl <| v0 (S0.fieldAddr rfl) rfl <| gT rfl <| v0 (S0.fieldAddr rfl) rfl <| gT rfl <| v0 (S0.load rfl rfl) rfl <| gT rfl <| v0 (S0.cmp rfl rfl rfl) rfl <| v0 (S0.pickT rfl rfl) rfl <| v0 (S0.move rfl) rfl <| ?_  -- guard t125 (wants True) at t126 := fieldAddr 33 t8 4 [if #13=True]
                    first | refine csP (t := 125) rfl (fun r2' => ?_) (fun r2' => ?_) | refine csN (t := 125) rfl (fun r2' => ?_) (fun r2' => ?_) | refine cs (t := 125) rfl (fun r2' => ?_) (fun r2' => ?_)
                    · skip
                      refine gT rfl <| v0 (S0.fieldAddr rfl) rfl <| gT rfl <| v0 (S0.fieldAddr rfl) rfl <| gT rfl <| v0 (S0.load rfl rfl) rfl <| gT rfl <| v0 (S0.move rfl) rfl <| gT rfl <| v0 (S0.cmp rfl rfl rfl) rfl <| v0 (S0.pickT rfl rfl) rfl <| v0 (S0.move rfl) rfl <| ?_  -- guard t132 (wants True) at t133 := move t10 [if #20=True]
                      first | refine csP (t := 132) rfl (fun r4' => ?_) (fun r4' => ?_) | refine csN (t := 132) rfl (fun r4' => ?_) (fun r4' => ?_) | refine cs (t := 132) rfl (fun r4' => ?_) (fun r4' => ?_)
                      · skip
                        refine gT rfl <| v0 (S0.move rfl) rfl <| gT rfl <| v0 (S0.fieldAddr rfl) rfl <| gT rfl <| v0 (S0.fieldAddr rfl) rfl <| gT rfl <| v0 (S0.load rfl rfl) rfl <| ?_  -- op t137 := call F27{rivulet/rivuletref05.Lets}(t133, t136) [if #20=True]
                        refine gT rfl <| vcd (S1.callF rfl (rlets_spec hfs.rdS hfx (show x.e.t.length ≤ 1000 by omega) (by omega)) (take1 (atS (atS (atS at0))) take0)) rfl ?_
                        refine v0 (S0.pickT rfl rfl) rfl <| v0 (S0.move rfl) rfl <| ?_  -- guard t139 (wants True) at t140 := move t9 [if #27=True]
                        first | refine csP (t := 139) rfl (fun r3' => ?_) (fun r3' => ?_) | refine csN (t := 139) rfl (fun r3' => ?_) (fun r3' => ?_) | refine cs (t := 139) rfl (fun r3' => ?_) (fun r3' => ?_)
                        · skip
                          have hge : ¬ ((wq.length : Int) < 32) := fun hlt3 => hnin (hgv.2 ⟨⟨r1', by omega⟩, r3', by omega, .inr (by omega)⟩)
                          refine gT rfl <| v0 (S0.move rfl) rfl <| gT rfl <| v0 (S0.lenSl rfl) rfl <| gT rfl <| v0 (S0.cmp rfl rfl rfl) rfl <| v0 (S0.pickT rfl rfl) rfl <| vE <| ?_  -- cond
                          refine WP.condFh rfl ((by simp; omega)) ?_
                          refine WP.skip <| ?_  -- cutend
                          exact ⟨((offerD S x.e).2, c1), (by first | exact ⟨hd1, ho2, hkO⟩ | (dsimp only; exact ⟨hd1, ho2, hkO⟩)), ⟨⟨rfl, rfl, rfl, rfl, rfl, trivial⟩, rfl, rfl⟩, ⟨_, (take1 (atS (atS at0)) (take1 (atS (atS at0)) (take1 (atS (atS (atS at0))) (take1 (atS (atS (atS at0))) take0))))⟩⟩
                        · skip
                          refine gF rfl rfl <| gF rfl rfl <| gF rfl rfl <| v0 (S0.pickF rfl rfl) rfl <| vE <| WP.condF rfl <| WP.skip <| ?_  -- cutend
                          exact ⟨((offerD S x.e).2, c1), (by first | exact ⟨hd1, ho2, hkO⟩ | (dsimp only; exact ⟨hd1, ho2, hkO⟩)), ⟨⟨rfl, rfl, rfl, rfl, rfl, trivial⟩, rfl, rfl⟩, ⟨_, (take1 (atS (atS at0)) (take1 (atS (atS at0)) (take1 (atS (atS (atS at0))) (take1 (atS (atS (atS at0))) take0))))⟩⟩
                      · skip
                        refine gF rfl rfl <| gF rfl rfl <| gF rfl rfl <| gF rfl rfl <| gF rfl rfl <| v0 (S0.pickF rfl rfl) rfl <| v0 (S0.move rfl) rfl <| gF rfl rfl <| gF rfl rfl <| gF rfl rfl <| v0 (S0.pickF rfl rfl) rfl <| vE <| WP.condF rfl <| WP.skip <| ?_  -- cutend
                        exact ⟨((offerD S x.e).2, c1), (by first | exact ⟨hd1, ho2, hkO⟩ | (dsimp only; exact ⟨hd1, ho2, hkO⟩)), ⟨⟨rfl, rfl, rfl, rfl, rfl, trivial⟩, rfl, rfl⟩, ⟨_, (take1 (atS at0) (take1 (atS at0) (take1 (atS (atS (atS at0))) (take1 (atS (atS (atS at0))) take0))))⟩⟩
                    · skip
                      refine gF rfl rfl <| gF rfl rfl <| gF rfl rfl <| gF rfl rfl <| gF rfl rfl <| v0 (S0.pickF rfl rfl) rfl <| v0 (S0.move rfl) rfl <| gF rfl rfl <| gF rfl rfl <| gF rfl rfl <| gF rfl rfl <| gF rfl rfl <| v0 (S0.pickF rfl rfl) rfl <| v0 (S0.move rfl) rfl <| gF rfl rfl <| gF rfl rfl <| gF rfl rfl <| v0 (S0.pickF rfl rfl) rfl <| vE <| WP.condF rfl <| WP.skip <| ?_  -- cutend
                      exact ⟨((offerD S x.e).2, c1), (by first | exact ⟨hd1, ho2, hkO⟩ | (dsimp only; exact ⟨hd1, ho2, hkO⟩)), ⟨⟨rfl, rfl, rfl, rfl, rfl, trivial⟩, rfl, rfl⟩, ⟨_, (take1 (atS at0) (take1 (atS at0) (take1 (atS (atS (atS at0))) (take1 (atS (atS (atS at0))) take0))))⟩⟩
                  · skip
                    refine gF rfl rfl <| gF rfl rfl <| gF rfl rfl <| gF rfl rfl <| v0 (S0.pickF rfl rfl) rfl <| v0 (S0.move rfl) rfl <| gF rfl rfl <| gF rfl rfl <| gF rfl rfl <| gF rfl rfl <| gF rfl rfl <| v0 (S0.pickF rfl rfl) rfl <| v0 (S0.move rfl) rfl <| gF rfl rfl <| gF rfl rfl <| gF rfl rfl <| gF rfl rfl <| gF rfl rfl <| v0 (S0.pickF rfl rfl) rfl <| v0 (S0.move rfl) rfl <| gF rfl rfl <| gF rfl rfl <| gF rfl rfl <| v0 (S0.pickF rfl rfl) rfl <| vE <| WP.condF rfl <| WP.skip <| ?_  -- cutend
                    exact ⟨((offerD S x.e).2, c1), (by first | exact ⟨hd1, ho2, hkO⟩ | (dsimp only; exact ⟨hd1, ho2, hkO⟩)), ⟨⟨rfl, rfl, rfl, rfl, rfl, trivial⟩, rfl, rfl⟩, ⟨_, (take1 (atS at0) (take1 (atS at0) (take1 (atS (atS (atS at0))) (take1 (atS (atS (atS at0))) take0))))⟩⟩
    · skip
      obtain ⟨S2, c2⟩ := st
      obtain ⟨hd2, ho2, hk2⟩ := hinv
      dsimp only at hd2 ho2 hk2 ⊢
      have hso2 := mrk_sorted ho2 q
      obtain ⟨-, -, hnl⟩ := sortedM_iff.1 hso2
      refine WP.seq <| WP.region <| v0 (S0.move rfl) rfl <| v0 (S0.move rfl) rfl <| ?_  -- op t176 := call F25{(*rivulet/device.Devices).Marks}(t174, t175)
      refine vc (S1.callF rfl (mrks_spec hd2 ho2 q) (take1 at0 take0)) rfl ?_
      rintro nv _ ⟨nrow, hns, rfl⟩
      refine app ?_
      generalize mrkD S2 q = nq at hk2 hns hnl
      obtain ⟨na, ncap, rfl, hncap, hnrow⟩ := IsSl.elems (k := 1) enM_len hns
      refine v0 (S0.assign rfl) rfl <| vE <| WP.seq <| WP.region <| v0 (S0.assign rfl) rfl <| vE <| WP.block <| ?_  -- Code.loop
      refine WP.loop (fun k : Nat => k ≤ wq.length) (fun k : Nat => [(1, .int .i64 q), (5, .slice (some ⟨b1, 0, none⟩) M.length mcap), (6, .pointer (some ⟨db, 0, none⟩)), (7, .int .i64 (i : Int)), (9, .slice wa wq.length wcap), (16, .slice na nq.length ncap), (17, .int .i64 (k : Int))]) (fun k : Nat => [nrow, c2, wrow, [(b1, .cells ⟨M.flatMap enO ++ sp1⟩ 33 (0, 0))], whole W]) (fun k : Nat => wq.length - k) (0) (Nat.zero_le _) ⟨rfl, rfl, rfl, rfl, rfl, rfl, rfl, trivial⟩ ⟨_, (take1 at0 (take1 at0 (take1 at0 (take1 at0 (take1 at0 take0)))))⟩ (fun k hinv => ?_) 
      refine WP.seq <| WP.seq <| WP.region <| v0 (S0.move rfl) rfl <| v0 (S0.move rfl) rfl <| v0 (S0.lenSl rfl) rfl <| v0 (S0.cmp rfl rfl rfl) rfl <| vE <| ?_  -- cond
      first | refine WP.condP rfl (fun h2 => ?_) (fun h2 => ?_) | refine WP.condN rfl (fun h2 => ?_) (fun h2 => ?_) | refine WP.cond rfl (fun h2 => ?_) (fun h2 => ?_)
      · skip
        have hlt2 : k < wq.length := by omega
        rcases hwrow with ⟨e, -⟩ | ⟨b2, sp2, rfl, rfl, hsp2⟩
        · rw [e] at hlt2; simp at hlt2
        have hz : wq[k]? = some wq[k] := by simp [hlt2]
        have hzm := List.getElem_mem hlt2
        generalize wq[k] = z at hz hzm
        obtain ⟨y0, hy0, hy1, hy2⟩ := hk2 z hzm
        have g0 := flat_get enM_len sp2 wq k 0 z hz (by decide)
        have g1 := flat_get enM_len sp2 wq k 1 z hz (by decide)
        refine WP.skip <| WP.seq <| WP.block <| WP.seq <| WP.region <| v0 (S0.assign rfl) rfl <| vE <| WP.seq <| WP.seq <| WP.region <| v0 (S0.assign rfl) rfl <| vE <| WP.block <| ?_  -- Code.loop
        refine WP.loop (fun st : Nat × Bool => st.1 ≤ nq.length ∧ st.2 = (nq.take st.1).any fun y => decide (y.1 = z.1) && decide (z.2 ≤ y.2)) (fun st : Nat × Bool => [(1, .int .i64 q), (5, .slice (some ⟨b1, 0, none⟩) M.length mcap), (6, .pointer (some ⟨db, 0, none⟩)), (7, .int .i64 (i : Int)), (9, .slice (some ⟨b2, 0, none⟩) wq.length wcap), (16, .slice na nq.length ncap), (17, .int .i64 (k : Int)), (18, .bool st.2), (19, .int .i64 (st.1 : Int))]) (fun st : Nat × Bool => [nrow, c2, [(b2, .cells ⟨wq.flatMap enM ++ sp2⟩ 54 (0, 0))], [(b1, .cells ⟨M.flatMap enO ++ sp1⟩ 33 (0, 0))], whole W]) (fun st : Nat × Bool => nq.length - st.1) ((0, false)) (⟨Nat.zero_le _, by simp⟩) ⟨rfl, rfl, rfl, rfl, rfl, rfl, rfl, rfl, rfl, trivial⟩ ⟨_, (take1 at0 (take1 at0 (take1 at0 (take1 at0 (take1 at0 take0)))))⟩ (fun st hinv => ?_) 
        obtain ⟨l, kb⟩ := st
        obtain ⟨hl2, hkb⟩ := hinv
        dsimp only at hl2 hkb ⊢
        refine WP.seq <| WP.seq <| WP.region <| v0 (S0.move rfl) rfl <| v0 (S0.move rfl) rfl <| v0 (S0.lenSl rfl) rfl <| v0 (S0.cmp rfl rfl rfl) rfl <| vE <| ?_  -- cond
        first | refine WP.condP rfl (fun h3 => ?_) (fun h3 => ?_) | refine WP.condN rfl (fun h3 => ?_) (fun h3 => ?_) | refine WP.cond rfl (fun h3 => ?_) (fun h3 => ?_)
        · skip
          have hlt3 : l < nq.length := by omega
          rcases hnrow with ⟨e, -⟩ | ⟨b3, sp3, rfl, rfl, hsp3⟩
          · rw [e] at hlt3; simp at hlt3
          have hu : nq[l]? = some nq[l] := by simp [hlt3]
          generalize nq[l] = u at hu
          have htk := take_one hu
          have g2 := flat_get enM_len sp3 nq l 0 u hu (by decide)
          have g3 := flat_get enM_len sp3 nq l 1 u hu (by decide)
          skip
          refine WP.skip <| WP.seq <| WP.block <| WP.drawP [(0, none), (1, none), (2, none), (3, none), (4, none), (5, none), (6, none), (7, none), (8, none), (9, none), (10, none), (11, none), (12, none), (13, none), (14, none), (15, none), (16, none), (17, none), (18, none), (19, none), (20, none), (21, none), (22, none), (23, none), (24, none), (25, none), (26, none), (27, none)] mixed (by kernel_rfl) (by kernel_rfl) (by kernel_rfl) (take1 at0 (take1 (atS at0) take0)) <| w0 rfl rfl rfl (S0.move rfl) rfl <| w0 rfl rfl rfl (S0.move rfl) rfl <| ?_  -- guard t190 (wants False) at t191 := move t16 [if #1=False]
          skip
          cases kb with
          | true =>
            skip
            refine wcsTh (t := 190) rfl (rfl) ?_
            refine wF rfl rfl rfl rfl <| wF rfl rfl rfl rfl <| wF rfl rfl rfl rfl <| wF rfl rfl rfl rfl <| wF rfl rfl rfl rfl <| wF rfl rfl rfl rfl <| wF rfl rfl rfl rfl <| wF rfl rfl rfl rfl <| wF rfl rfl rfl rfl <| wF rfl rfl rfl rfl <| wF rfl rfl rfl rfl <| wF rfl rfl rfl rfl <| wF rfl rfl rfl rfl <| wF rfl rfl rfl rfl <| wF rfl rfl rfl rfl <| wF rfl rfl rfl rfl <| wF rfl rfl rfl rfl <| wF rfl rfl rfl rfl <| wF rfl rfl rfl rfl <| wF rfl rfl rfl rfl <| wF rfl rfl rfl rfl <| wF rfl rfl rfl rfl <| wF rfl rfl rfl rfl <| wF rfl rfl rfl rfl <| w0 rfl rfl rfl (S0.pickT rfl rfl) rfl <| w0 rfl rfl rfl (S0.assign rfl) rfl <| wE <| WP.region <| v0 (S0.move rfl) rfl <| v0 (S0.ari rfl rfl rfl (wrap_i64 (by omega))) rfl <| v0 (S0.assign rfl) rfl <| vE <| ?_  -- roundend
            exact ⟨(l + 1, true), (by first | exact ⟨hlt3, by rw [htk, List.any_append, ← hkb]; rfl⟩ | (dsimp only; exact ⟨hlt3, by rw [htk, List.any_append, ← hkb]; rfl⟩)), (show nq.length - (l + 1) < nq.length - l by omega), ⟨⟨rfl, rfl, rfl, rfl, rfl, rfl, rfl, rfl, rfl, trivial⟩, rfl, rfl⟩, ⟨_, (take1 at0 (take1 (atS at0) (take1 at0 (take1 at0 (take1 at0 take0)))))⟩⟩
          | false =>
            skip
            refine wcsFh (t := 190) rfl (rfl) ?_
            refine w0 rfl rfl rfl (S0.move rfl) rfl <| w0 rfl rfl rfl (S0.move rfl) rfl <| ?_  -- op t193 := indexAddr 49 t191 t192 [if #1=False]
            refine w0 rfl rfl rfl (S0.indexN (k := 2) rfl rfl hlt3) rfl <| ?_
            refine w0 rfl rfl rfl (S0.fieldAddr rfl) rfl <| ?_  -- limit
            refine w0 rfl rfl rfl (S0.load (v := .int .i64 u.1) rfl g2) rfl <| ?_
            refine w0 rfl rfl rfl (S0.move rfl) rfl <| w0 rfl rfl rfl (S0.move rfl) rfl <| ?_  -- op t198 := indexAddr 49 t196 t197 [if #1=False]
            refine w0 rfl rfl rfl (S0.indexN (k := 2) rfl rfl hlt2) rfl <| ?_
            refine w0 rfl rfl rfl (S0.fieldAddr rfl) rfl <| ?_  -- limit
            refine w0 rfl rfl rfl (S0.load (v := .int .i64 z.1) rfl g0) rfl <| ?_
            refine w0 rfl rfl rfl (S0.cmp rfl rfl rfl) rfl <| w0 rfl rfl rfl (S0.move rfl) rfl <| ?_  -- guard t202 (wants True) at t203 := move t16 [if #13=True]
            first | refine wcsP (t := 202) rfl (fun h4 => ?_) (fun h4 => ?_) | refine wcsN (t := 202) rfl (fun h4 => ?_) (fun h4 => ?_) | refine wcs (t := 202) rfl (fun h4 => ?_) (fun h4 => ?_)
            · skip
              refine w0 rfl rfl rfl (S0.move rfl) rfl <| w0 rfl rfl rfl (S0.move rfl) rfl <| ?_  -- op t205 := indexAddr 49 t203 t204 [if #13=True]
              refine w0 rfl rfl rfl (S0.indexN (k := 2) rfl rfl hlt3) rfl <| ?_
              refine w0 rfl rfl rfl (S0.fieldAddr rfl) rfl <| ?_  -- limit
              refine w0 rfl rfl rfl (S0.load (v := .int .i64 u.2) rfl g3) rfl <| ?_
              refine w0 rfl rfl rfl (S0.move rfl) rfl <| w0 rfl rfl rfl (S0.move rfl) rfl <| ?_  -- op t210 := indexAddr 49 t208 t209 [if #13=True]
              refine w0 rfl rfl rfl (S0.indexN (k := 2) rfl rfl hlt2) rfl <| ?_
              refine w0 rfl rfl rfl (S0.fieldAddr rfl) rfl <| ?_  -- limit
              refine w0 rfl rfl rfl (S0.load (v := .int .i64 z.2) rfl g1) rfl <| ?_
              refine w0 rfl rfl rfl (S0.cmp rfl rfl rfl) rfl <| w0 rfl rfl rfl (S0.pickT rfl rfl) rfl <| w0 rfl rfl rfl (S0.pickF rfl rfl) rfl <| w0 rfl rfl rfl (S0.assign rfl) rfl <| wE <| WP.region <| v0 (S0.move rfl) rfl <| v0 (S0.ari rfl rfl rfl (wrap_i64 (by omega))) rfl <| v0 (S0.assign rfl) rfl <| vE <| ?_  -- roundend
              exact ⟨(l + 1, decide (z.2 ≤ u.2)), (by first | exact ⟨hlt3, by rw [htk, List.any_append, ← hkb]; simp [h4]⟩ | (dsimp only; exact ⟨hlt3, by rw [htk, List.any_append, ← hkb]; simp [h4]⟩)), (show nq.length - (l + 1) < nq.length - l by omega), ⟨⟨rfl, rfl, rfl, rfl, rfl, rfl, rfl, rfl, rfl, trivial⟩, rfl, rfl⟩, ⟨_, (take1 at0 (take1 (atS at0) (take1 at0 (take1 at0 (take1 at0 take0)))))⟩⟩
            · skip
              refine wF rfl rfl rfl rfl <| wF rfl rfl rfl rfl <| wF rfl rfl rfl rfl <| wF rfl rfl rfl rfl <| wF rfl rfl rfl rfl <| wF rfl rfl rfl rfl <| wF rfl rfl rfl rfl <| wF rfl rfl rfl rfl <| wF rfl rfl rfl rfl <| wF rfl rfl rfl rfl <| wF rfl rfl rfl rfl <| w0 rfl rfl rfl (S0.pickF rfl rfl) rfl <| w0 rfl rfl rfl (S0.pickF rfl rfl) rfl <| w0 rfl rfl rfl (S0.assign rfl) rfl <| wE <| WP.region <| v0 (S0.move rfl) rfl <| v0 (S0.ari rfl rfl rfl (wrap_i64 (by omega))) rfl <| v0 (S0.assign rfl) rfl <| vE <| ?_  -- roundend
              exact ⟨(l + 1, false), (by first | exact ⟨hlt3, by rw [htk, List.any_append, ← hkb]; simp [h4]⟩ | (dsimp only; exact ⟨hlt3, by rw [htk, List.any_append, ← hkb]; simp [h4]⟩)), (show nq.length - (l + 1) < nq.length - l by omega), ⟨⟨rfl, rfl, rfl, rfl, rfl, rfl, rfl, rfl, rfl, trivial⟩, rfl, rfl⟩, ⟨_, (take1 at0 (take1 (atS at0) (take1 at0 (take1 at0 (take1 at0 take0)))))⟩⟩
        · skip
          have hl3 : l = nq.length := by omega
          subst hl3
          rw [List.take_length] at hkb
          have hkt : kb = true := by
            rw [hkb]; exact List.any_eq_true.2 ⟨y0, hy0, by simp [hy1, hy2]⟩
          subst hkt
          refine WP.exit <| WP.seq <| WP.region <| v0 (S0.move rfl) rfl <| v0 (S0.not rfl) rfl <| vE <| ?_  -- cond
          refine WP.condFh rfl (rfl) ?_
          refine WP.skip <| WP.region <| v0 (S0.move rfl) rfl <| v0 (S0.ari rfl rfl rfl (wrap_i64 (by omega))) rfl <| v0 (S0.assign rfl) rfl <| vE <| ?_  -- roundend
          exact ⟨k + 1, (by first | exact hlt2 | (dsimp only; exact hlt2)), (by omega), ⟨⟨rfl, rfl, rfl, rfl, rfl, rfl, rfl, trivial⟩, rfl, rfl⟩, ⟨_, (take1 at0 (take1 at0 (take1 at0 (take1 at0 (take1 at0 take0)))))⟩⟩
      · skip
        refine WP.exit <| WP.region <| v0 (S0.move rfl) rfl <| v0 (S0.ari rfl rfl rfl (wrap_i64 (by omega))) rfl <| v0 (S0.assign rfl) rfl <| vE <| ?_  -- roundend
        exact ⟨(i + 1, S2, c2), (by first | exact ⟨hlt, hd2, ho2⟩ | (dsimp only; exact ⟨hlt, hd2, ho2⟩)), (show M.length - (i + 1) < M.length - i by omega), ⟨⟨rfl, rfl, rfl, rfl, trivial⟩, rfl, rfl⟩, ⟨_, (take1 (atS at0) (take1 (atS (atS at0)) (take1 (atS (atS at0)) take0)))⟩⟩
  · skip
    refine WP.exit <| WP.seq <| WP.region <| ?_  -- op t218 := call F23{rivulet/rivuletlaw19.fixed}()
    refine vcd (S1.callF rfl (fixed_spec) take0) rfl ?_
    refine v0 (S0.assign rfl) rfl <| vE <| WP.ret <| ?_  -- ret
    refine Leaves.drop (take1 (atS (atS at0)) take0) ?_
    refine r1 rfl rfl ?_
    exact ⟨rfl, rfl⟩
end Go.Proofs.YtanecnnfpdhadaaGreatDoor
/- L8 -/
namespace Go.Proofs.YtanecnnfpdhadaaGreatDoor
open Go

abbrev oneD (F : List Str) : DS := [⟨1, F, []⟩]
theorem ask_one (F : List Str) (f : Str) (on : Bool) : askD (oneD F) 1 f on = ((askF F f on).1, oneD (askF F f on).2) := rfl
theorem askF_bad {F : List Str} {f : Str} {on : Bool} (h : (askF F f on).1 ≠ 0) : (askF F f on).2 = F := by
  unfold askF at h ⊢
  by_cases h1 : filtS f = false
  · rw [if_pos h1]
  · rw [if_neg h1] at h ⊢
    by_cases h2 : on = true
    · rw [if_pos h2] at h ⊢
      by_cases h3 : f ∈ F
      · rw [if_pos h3]
      · rw [if_neg h3] at h ⊢
        by_cases h4 : 8 ≤ F.length
        · rw [if_pos h4]
        · rw [if_neg h4] at h; exact absurd rfl h
    · rw [if_neg h2] at h ⊢
      by_cases h3 : f ∈ F
      · rw [if_pos h3] at h; exact absurd rfl h
      · rw [if_neg h3]
theorem askF_on {F : List Str} {f : Str} (h : (askF F f true).1 = 0) : (askF F f true).2 = insS F f ∧ filtS f = true := by
  unfold askF at h ⊢
  by_cases h1 : filtS f = false
  · rw [if_pos h1] at h; cases h
  · rw [if_neg h1, if_pos rfl] at h ⊢
    by_cases h3 : f ∈ F
    · rw [if_pos h3] at h; cases h
    · rw [if_neg h3] at h ⊢
      by_cases h4 : 8 ≤ F.length
      · rw [if_pos h4] at h; cases h
      · rw [if_neg h4]; exact ⟨rfl, by simpa using h1⟩
theorem askF_off {F : List Str} {f : Str} (h : (askF F f false).1 = 0) : (askF F f false).2 = withoutS F [f] := by
  unfold askF at h ⊢
  by_cases h1 : filtS f = false
  · rw [if_pos h1] at h; cases h
  · rw [if_neg h1, if_neg (by simp)] at h ⊢
    by_cases h3 : f ∈ F
    · rw [if_pos h3]
      unfold withoutS
      exact List.filter_congr fun x _ => by simp
    · rw [if_neg h3] at h; cases h
set_option maxRecDepth 100000 in
set_option maxHeartbeats 2000000 in
theorem deviceAsks_walk (W : World) (lv : Value) (hl : ArgF W opK lv) : FN Tryz.prog 6 [lv] [whole W] (fun v h => v = .bool true ∧ h = [whole W]) := by
  obtain ⟨l0, hrl⟩ := argOps hl
  have hll := cutOs_len l0
  have hlx := cutOs_mem (l := l0)
  refine FN.intro 107 [(0, lv)] Tryz.func6 rfl (enters Tryz.func6 (by kernel_rfl) rfl) Tryz.ntmps6 rfl rfl ?_
  refine WP.seq <| WP.region <| v0 (S0.assign rfl) rfl <| vE <| WP.seq <| WP.region <| v0 (S0.move rfl) rfl <| ?_  -- op t12 := call F9{rivulet/rivuletlaw19.Cut}(t11)
  refine vc (S1.callF rfl (cut_spec hrl) (take1 at0 take0)) rfl ?_
  rintro _ _ ⟨row, hs, rfl⟩
  refine app ?_
  generalize cutOs l0 = M at hll hlx hs
  obtain ⟨ma, mcap, rfl, hmcap, hrow⟩ := IsSl.elems (k := 8) enO_len hs
  -- (nothing to walk: op t13 := call F10{rivulet/device.New}())
  refine vc (S1.callF rfl (new_spec) take0) rfl ?_
  rintro _ _ ⟨db, c0, rfl, hd0, rfl⟩
  refine app ?_
  refine v0 (S0.assign rfl) rfl <| v0 (S0.assign rfl) rfl <| vE <| WP.seq <| WP.seq <| WP.region <| v0 (S0.move rfl) rfl <| v0 (S0.nilP rfl rfl rfl rfl) rfl <| v0 (S0.move rfl) rfl <| ?_  -- guard t16 (wants False) at t17 := move t4 [if #2=False]
  refine csFh (t := 16) rfl (rfl) ?_
  refine gT rfl <| v0 (S0.move rfl) rfl <| ?_  -- op t18 := call F11{(*rivulet/device.Devices).Join}(t17, 1:i64) [if #2=False]
  refine gT rfl <| vc (S1.callF rfl (joinc hd0 DevOk.nil j1) (take1 at0 take0)) rfl ?_
  rintro _ _ ⟨c1, hd1, rfl, rfl⟩
  refine app ?_
  refine gT rfl <| v0 (S0.cmp rfl rfl rfl) rfl <| v0 (S0.pickF rfl rfl) rfl <| vE <| ?_  -- cond
  refine WP.condFh rfl (rfl) ?_
  refine WP.skip <| WP.seq <| WP.region <| vnv (S1.buildSlice rfl (qs := []) rfl rfl) rfl fun b21 => v0 (S0.assign rfl) rfl <| vE <| WP.seq <| WP.seq <| WP.region <| v0 (S0.assign rfl) rfl <| vE <| WP.block <| ?_  -- Code.loop
  refine WP.loop (fun st : Nat × List Str × List Blk × Value × List Blk => st.1 ≤ M.length ∧ IsDev db (oneD st.2.1) st.2.2.1 ∧ DevOk (oneD st.2.1) ∧ IsSl 9 1 st.2.2.2.1 (strs st.2.1) st.2.2.2.2) (fun st : Nat × List Str × List Blk × Value × List Blk => [(3, .slice ma M.length mcap), (4, .pointer (some ⟨db, 0, none⟩)), (5, st.2.2.2.1), (6, .int .i64 (st.1 : Int))]) (fun st : Nat × List Str × List Blk × Value × List Blk => [st.2.2.2.2, st.2.2.1, row, whole W]) (fun st : Nat × List Str × List Blk × Value × List Blk => M.length - st.1) ((0, [], c1, .slice (some ⟨b21, 0, none⟩) 0 0, [(b21, .cells ⟨[]⟩ 9 (0, 0))])) (⟨Nat.zero_le _, hd1, ok1, IsSl.row (n := 0) (c := 0) (l := []) (sp := []) rfl rfl (Nat.le_refl _)⟩) ⟨rfl, rfl, rfl, rfl, trivial⟩ ⟨_, (take1 at0 (take1 at0 (take1 at0 (take1 at0 take0))))⟩ (fun st hinv => ?_) 
  obtain ⟨i, F, c, hv, hrw⟩ := st
  obtain ⟨hi, hd, ho, hhs⟩ := hinv
  dsimp only at hi hd ho hhs ⊢
  refine WP.seq <| WP.seq <| WP.region <| v0 (S0.move rfl) rfl <| v0 (S0.move rfl) rfl <| v0 (S0.lenSl rfl) rfl <| v0 (S0.cmp rfl rfl rfl) rfl <| vE <| ?_  -- cond
  first | refine WP.condP rfl (fun h1 => ?_) (fun h1 => ?_) | refine WP.condN rfl (fun h1 => ?_) (fun h1 => ?_) | refine WP.cond rfl (fun h1 => ?_) (fun h1 => ?_)
  · skip
    have hlt : i < M.length := by omega
    rcases hrow with ⟨e, -⟩ | ⟨b1, sp1, rfl, rfl, hsp1⟩
    · rw [e] at hlt; simp at hlt
    have hx : M[i]? = some M[i] := by simp [hlt]
    have hxl := hlx _ (List.getElem_mem hlt)
    generalize M[i] = x at hx hxl
    have gA : ((M.flatMap enO ++ sp1).drop (i * 9)).take 9 = enO x := flat_take enO_len sp1 M i _ hx
    have hoF := ho.all ⟨1, F, []⟩ (by simp)
    have hlF := hoF.lF
    have hxF : ∀ z ∈ F, z.length ≤ 1000 := fun z hz => by have := filt_len (hoF.fF z hz); omega
    dsimp only at hlF
    obtain ⟨ha, hcap, rfl, hhc, hhrow⟩ := hhs.strsE
    have hoA := ho.ask 1 x.f x.on
    rw [ask_one] at hoA
    dsimp only at hoA
    refine WP.skip <| WP.seq <| WP.block <| WP.seq <| WP.region <| v0 (S0.move rfl) rfl <| v0 (S0.move rfl) rfl <| ?_  -- op t30 := indexAddr 22 t28 t29
    refine v0 (S0.indexN (k := 9) rfl rfl hlt) rfl <| ?_
    refine v0 (S0.loadA rfl gA rfl) rfl <| ?_
    refine vn (S1.alloc) rfl fun b7 => vs (S1.storeA rfl rfl rfl) <| vE <| WP.seq <| WP.region <| v0 (S0.assign rfl) rfl <| vE <| WP.seq <| WP.seq <| WP.region <| v0 (S0.assign rfl) rfl <| vE <| WP.block <| ?_  -- Code.loop
    refine WP.loop (fun st : Nat × Bool => st.1 ≤ F.length ∧ st.2 = decide (x.f ∈ F.take st.1)) (fun st : Nat × Bool => [(3, .slice (some ⟨b1, 0, none⟩) M.length mcap), (4, .pointer (some ⟨db, 0, none⟩)), (5, .slice ha F.length hcap), (6, .int .i64 (i : Int)), (7, .pointer (some ⟨b7, 0, none⟩)), (8, .bool st.2), (9, .int .i64 (st.1 : Int))]) (fun st : Nat × Bool => [[(b7, .cells ⟨enO x⟩ 33 (0, 0))], hrw, c, [(b1, .cells ⟨M.flatMap enO ++ sp1⟩ 33 (0, 0))], whole W]) (fun st : Nat × Bool => F.length - st.1) ((0, false)) (⟨Nat.zero_le _, by simp⟩) ⟨rfl, rfl, rfl, rfl, rfl, rfl, rfl, trivial⟩ ⟨_, (take1 at0 (take1 at0 (take1 at0 (take1 at0 (take1 at0 take0)))))⟩ (fun st hinv => ?_) 
    obtain ⟨k, ib⟩ := st
    obtain ⟨hk, hib⟩ := hinv
    dsimp only at hk hib ⊢
    refine WP.seq <| WP.seq <| WP.region <| v0 (S0.move rfl) rfl <| v0 (S0.move rfl) rfl <| v0 (S0.lenSl rfl) rfl <| v0 (S0.cmp rfl rfl rfl) rfl <| vE <| ?_  -- cond
    first | refine WP.condP rfl (fun h2 => ?_) (fun h2 => ?_) | refine WP.condN rfl (fun h2 => ?_) (fun h2 => ?_) | refine WP.cond rfl (fun h2 => ?_) (fun h2 => ?_)
    · skip
      have hlt2 : k < F.length := by omega
      rcases hhrow with ⟨e, -⟩ | ⟨b2, sp2, rfl, rfl, hsp2⟩
      · rw [e] at hlt2; simp at hlt2
      have hz : F[k]? = some F[k] := by simp [hlt2]
      generalize F[k] = z at hz
      have htk := take_one hz
      skip
      refine WP.skip <| WP.seq <| WP.block <| WP.drawP [(0, none), (1, none), (2, none), (3, none), (4, none), (5, none), (6, none), (7, none), (8, none), (9, none), (10, none)] mixed (by kernel_rfl) (by kernel_rfl) (by kernel_rfl) (take1 at0 (take1 at0 take0)) <| w0 rfl rfl rfl (S0.move rfl) rfl <| w0 rfl rfl rfl (S0.move rfl) rfl <| ?_  -- guard t39 (wants False) at t40 := move t5 [if #1=False]
      skip
      cases ib with
      | true =>
        skip
        refine wcsTh (t := 39) rfl (rfl) ?_
        refine wF rfl rfl rfl rfl <| wF rfl rfl rfl rfl <| wF rfl rfl rfl rfl <| wF rfl rfl rfl rfl <| wF rfl rfl rfl rfl <| wF rfl rfl rfl rfl <| wF rfl rfl rfl rfl <| w0 rfl rfl rfl (S0.pickT rfl rfl) rfl <| w0 rfl rfl rfl (S0.assign rfl) rfl <| wE <| WP.region <| v0 (S0.move rfl) rfl <| v0 (S0.ari rfl rfl rfl (wrap_i64 (by omega))) rfl <| v0 (S0.assign rfl) rfl <| vE <| ?_  -- roundend
        exact ⟨(k + 1, true), (by first | exact ⟨hlt2, by rw [htk]; symm; simp at hib ⊢; exact .inl hib⟩ | (dsimp only; exact ⟨hlt2, by rw [htk]; symm; simp at hib ⊢; exact .inl hib⟩)), (show F.length - (k + 1) < F.length - k by omega), ⟨⟨rfl, rfl, rfl, rfl, rfl, rfl, rfl, trivial⟩, rfl, rfl⟩, ⟨_, (take1 at0 (take1 at0 (take1 at0 (take1 at0 (take1 at0 take0)))))⟩⟩
      | false =>
        skip
        refine wcsFh (t := 39) rfl (rfl) ?_
        refine w0 rfl rfl rfl (S0.move rfl) rfl <| w0 rfl rfl rfl (S0.move rfl) rfl <| ?_  -- op t42 := indexAddr 51 t40 t41 [if #1=False]
        refine w0 rfl rfl rfl (S0.index1 rfl rfl hlt2) rfl <| ?_
        refine w0 rfl rfl rfl (S0.load rfl (strs_get hz)) rfl <| ?_
        refine w0 rfl rfl rfl (S0.fieldAddr rfl) rfl <| w0 rfl rfl rfl (S0.load rfl rfl) rfl <| w0 rfl rfl rfl (S0.cmpS rfl rfl rfl) rfl <| w0 rfl rfl rfl (S0.pickF rfl rfl) rfl <| w0 rfl rfl rfl (S0.assign rfl) rfl <| wE <| WP.region <| v0 (S0.move rfl) rfl <| v0 (S0.ari rfl rfl rfl (wrap_i64 (by omega))) rfl <| v0 (S0.assign rfl) rfl <| vE <| ?_  -- roundend
        exact ⟨(k + 1, decide (z = x.f)), (by first | exact ⟨hlt2, by rw [htk]; simp at hib ⊢; simp [hib, eq_comm]⟩ | (dsimp only; exact ⟨hlt2, by rw [htk]; simp at hib ⊢; simp [hib, eq_comm]⟩)), (show F.length - (k + 1) < F.length - k by omega), ⟨⟨rfl, rfl, rfl, rfl, rfl, rfl, rfl, trivial⟩, rfl, rfl⟩, ⟨_, (take1 at0 (take1 at0 (take1 at0 (take1 at0 (take1 at0 take0)))))⟩⟩
    · skip
      have hk3 : k = F.length := by omega
      subst hk3
      rw [List.take_length] at hib
      refine WP.exit <| WP.seq <| WP.region <| v0 (S0.assign rfl) rfl <| vE <| ?_  -- cut
      refine WP.cutS (fun E : Int => E = (askF F x.f x.on).1) (fun E : Int => [(3, .slice (some ⟨b1, 0, none⟩) M.length mcap), (4, .pointer (some ⟨db, 0, none⟩)), (5, .slice ha F.length hcap), (6, .int .i64 (i : Int)), (7, .pointer (some ⟨b7, 0, none⟩)), (10, .int .i64 E)]) (fun E : Int => [[(b7, .cells ⟨enO x⟩ 33 (0, 0))], hrw, c, [(b1, .cells ⟨M.flatMap enO ++ sp1⟩ 33 (0, 0))], whole W]) ?_ (fun E hinv => ?_)
      · subst hib
        refine WP.seq <| WP.region <| v0 (S0.fieldAddr rfl) rfl <| v0 (S0.load rfl rfl) rfl <| ?_  -- op t50 := call F29{rivulet/rivuletref03.Filter}(t49)
        refine vcd (S1.callF rfl (rfilter_spec (s := x.f) (by omega)) take0) rfl ?_
        refine v0 (S0.not rfl) rfl <| vE <| ?_  -- cond
        skip
        cases hff : filtS x.f with
        | false =>
          skip
          refine WP.condTh rfl (rfl) ?_
          refine WP.region <| v0 (S0.assign rfl) rfl <| vE <| ?_  -- cutend
          exact ⟨1, (by first | exact (by simp [askF, hff]) | (dsimp only; exact (by simp [askF, hff]))), ⟨⟨rfl, rfl, rfl, rfl, rfl, rfl, trivial⟩, rfl, rfl⟩, ⟨_, (take1 at0 (take1 at0 (take1 at0 (take1 at0 (take1 at0 take0)))))⟩⟩
        | true =>
          skip
          refine WP.condFh rfl (rfl) ?_
          refine WP.seq <| WP.region <| v0 (S0.fieldAddr rfl) rfl <| v0 (S0.load rfl rfl) rfl <| v0 (S0.move rfl) rfl <| ?_  -- guard t54 (wants True) at t55 := move t8 [if #2=True]
          skip
          cases hon : x.on with
          | true =>
            skip
            refine csTh (t := 54) rfl (rfl) ?_
            refine gT rfl <| v0 (S0.move rfl) rfl <| v0 (S0.pickT rfl rfl) rfl <| vE <| ?_  -- cond
            first | refine WP.condP rfl (fun g1 => ?_) (fun g1 => ?_) | refine WP.condN rfl (fun g1 => ?_) (fun g1 => ?_) | refine WP.cond rfl (fun g1 => ?_) (fun g1 => ?_)
            · skip
              refine WP.region <| v0 (S0.assign rfl) rfl <| vE <| ?_  -- cutend
              exact ⟨9, (by first | exact (by simp [askF, hff, g1]) | (dsimp only; exact (by simp [askF, hff, g1]))), ⟨⟨rfl, rfl, rfl, rfl, rfl, rfl, trivial⟩, rfl, rfl⟩, ⟨_, (take1 at0 (take1 at0 (take1 at0 (take1 at0 (take1 at0 take0)))))⟩⟩
            · skip
              refine WP.seq <| WP.region <| v0 (S0.fieldAddr rfl) rfl <| v0 (S0.load rfl rfl) rfl <| v0 (S0.move rfl) rfl <| ?_  -- guard t59 (wants True) at t60 := move t5 [if #2=True]
              refine csTh (t := 59) rfl ((by rw [hon])) ?_
              refine gT rfl <| v0 (S0.move rfl) rfl <| gT rfl <| v0 (S0.lenSl rfl) rfl <| gT rfl <| v0 (S0.cmp rfl rfl rfl) rfl <| v0 (S0.pickT rfl rfl) rfl <| vE <| ?_  -- cond
              first | refine WP.condP rfl (fun g2 => ?_) (fun g2 => ?_) | refine WP.condN rfl (fun g2 => ?_) (fun g2 => ?_) | refine WP.cond rfl (fun g2 => ?_) (fun g2 => ?_)
              · skip
                have h8 : 8 ≤ F.length := by omega
                refine WP.region <| v0 (S0.assign rfl) rfl <| vE <| ?_  -- cutend
                exact ⟨7, (by first | exact (by simp [askF, hff, g1, h8]) | (dsimp only; exact (by simp [askF, hff, g1, h8]))), ⟨⟨rfl, rfl, rfl, rfl, rfl, rfl, trivial⟩, rfl, rfl⟩, ⟨_, (take1 at0 (take1 at0 (take1 at0 (take1 at0 (take1 at0 take0)))))⟩⟩
              · skip
                refine WP.seq <| WP.region <| v0 (S0.fieldAddr rfl) rfl <| v0 (S0.load rfl rfl) rfl <| v0 (S0.not rfl) rfl <| v0 (S0.move rfl) rfl <| ?_  -- guard t67 (wants True) at t68 := move t8 [if #3=True]
                refine csFh (t := 67) rfl ((by rw [hon]; rfl)) ?_
                refine gF rfl rfl <| gF rfl rfl <| v0 (S0.pickF rfl rfl) rfl <| vE <| WP.condF rfl <| WP.skip <| ?_  -- cutend
                have h8 : ¬ 8 ≤ F.length := by omega
                exact ⟨0, (by first | exact (by simp [askF, hff, g1, h8]) | (dsimp only; exact (by simp [askF, hff, g1, h8]))), ⟨⟨rfl, rfl, rfl, rfl, rfl, rfl, trivial⟩, rfl, rfl⟩, ⟨_, (take1 at0 (take1 at0 (take1 at0 (take1 at0 (take1 at0 take0)))))⟩⟩
          | false =>
            skip
            refine csFh (t := 54) rfl (rfl) ?_
            refine gF rfl rfl <| v0 (S0.pickF rfl rfl) rfl <| vE <| WP.condF rfl <| WP.seq <| WP.region <| v0 (S0.fieldAddr rfl) rfl <| v0 (S0.load rfl rfl) rfl <| v0 (S0.move rfl) rfl <| ?_  -- guard t59 (wants True) at t60 := move t5 [if #2=True]
            refine csFh (t := 59) rfl ((by rw [hon])) ?_
            refine gF rfl rfl <| gF rfl rfl <| gF rfl rfl <| v0 (S0.pickF rfl rfl) rfl <| vE <| WP.condF rfl <| WP.seq <| WP.region <| v0 (S0.fieldAddr rfl) rfl <| v0 (S0.load rfl rfl) rfl <| v0 (S0.not rfl) rfl <| v0 (S0.move rfl) rfl <| ?_  -- guard t67 (wants True) at t68 := move t8 [if #3=True]
            refine csTh (t := 67) rfl ((by rw [hon]; rfl)) ?_
            refine gT rfl <| v0 (S0.move rfl) rfl <| gT rfl <| v0 (S0.not rfl) rfl <| v0 (S0.pickT rfl rfl) rfl <| vE <| ?_  -- cond
            first | refine WP.condP rfl (fun g3 => ?_) (fun g3 => ?_) | refine WP.condN rfl (fun g3 => ?_) (fun g3 => ?_) | refine WP.cond rfl (fun g3 => ?_) (fun g3 => ?_)
            · skip
              refine WP.region <| v0 (S0.assign rfl) rfl <| vE <| ?_  -- cutend
              exact ⟨8, (by first | exact (by simp [askF, hff, g3]) | (dsimp only; exact (by simp [askF, hff, g3]))), ⟨⟨rfl, rfl, rfl, rfl, rfl, rfl, trivial⟩, rfl, rfl⟩, ⟨_, (take1 at0 (take1 at0 (take1 at0 (take1 at0 (take1 at0 take0)))))⟩⟩
            · skip
              have g3 : x.f ∈ F := by simpa using g3
              refine WP.skip <| ?_  -- cutend
              exact ⟨0, (by first | exact (by simp [askF, hff, g3]) | (dsimp only; exact (by simp [askF, hff, g3]))), ⟨⟨rfl, rfl, rfl, rfl, rfl, rfl, trivial⟩, rfl, rfl⟩, ⟨_, (take1 at0 (take1 at0 (take1 at0 (take1 at0 (take1 at0 take0)))))⟩⟩
      · skip
        subst hinv
        refine WP.seq <| WP.seq <| WP.region <| v0 (S0.move rfl) rfl <| v0 (S0.fieldAddr rfl) rfl <| v0 (S0.load rfl rfl) rfl <| v0 (S0.fieldAddr rfl) rfl <| v0 (S0.load rfl rfl) rfl <| ?_  -- op t76 := call F15{(*rivulet/device.Devices).Ask}(t71, 1:i64, t73, t75)
        refine vc (S1.callF rfl (ask_spec hd ho 1 (f := x.f) (by omega) x.on) (take1 (atS (atS at0)) take0)) rfl ?_
        rintro _ _ ⟨c2, hd2, rfl, rfl⟩
        refine app ?_
        rw [ask_one] at hd2 ⊢
        dsimp only at hd2 ⊢
        refine v0 (S0.move rfl) rfl <| v0 (S0.cmp rfl rfl rfl) rfl <| vE <| ?_  -- cond
        refine WP.condFh rfl ((by simp)) ?_
        refine WP.skip <| WP.seq <| WP.seq <| WP.region <| v0 (S0.move rfl) rfl <| v0 (S0.cmp rfl rfl rfl) rfl <| v0 (S0.move rfl) rfl <| ?_  -- guard t81 (wants True) at t82 := fieldAddr 33 t7 3 [if #2=True]
        skip
        by_cases hE : (askF F x.f x.on).1 = 0
        · skip
          refine csTh (t := 81) rfl ((by simp [hE])) ?_
          refine gT rfl <| v0 (S0.fieldAddr rfl) rfl <| gT rfl <| v0 (S0.load rfl rfl) rfl <| v0 (S0.pickT rfl rfl) rfl <| vE <| ?_  -- cond
          skip
          cases hon : x.on with
          | true =>
            skip
            refine WP.condTh rfl (rfl) ?_
            rw [hon] at hd2 hoA hE
            obtain ⟨hF2, hff⟩ := askF_on hE
            rw [hF2] at hd2 hoA
            have hl2 := (hoA.all ⟨1, insS F x.f, []⟩ (by simp)).lF
            dsimp only at hl2
            have hflen := filt_len hff
            refine WP.region <| v0 (S0.move rfl) rfl <| v0 (S0.fieldAddr rfl) rfl <| v0 (S0.load rfl rfl) rfl <| ?_  -- op t88 := call F30{rivulet/rivuletref04.Insert}(t85, t87)
            refine vc (S1.callF rfl (rinsert_spec hhs (by omega) hxF (show x.f.length ≤ 1000 by omega)) (take1 (atS (atS at0)) take0)) rfl ?_
            rintro v3 _ ⟨row3, hs3, rfl⟩
            refine app ?_
            refine v0 (S0.assign rfl) rfl <| vE <| WP.seq <| WP.seq <| WP.region <| v0 (S0.move rfl) rfl <| v0 (S0.cmp rfl rfl rfl) rfl <| v0 (S0.move rfl) rfl <| ?_  -- guard t91 (wants True) at t92 := fieldAddr 33 t7 3 [if #2=True]
            refine csTh (t := 91) rfl ((by simp [hE])) ?_
            refine gT rfl <| v0 (S0.fieldAddr rfl) rfl <| gT rfl <| v0 (S0.load rfl rfl) rfl <| gT rfl <| v0 (S0.not rfl) rfl <| v0 (S0.pickT rfl rfl) rfl <| vE <| ?_  -- cond
            refine WP.condFh rfl ((by rw [hon]; rfl)) ?_
            refine WP.skip <| WP.seq <| WP.region <| v0 (S0.move rfl) rfl <| ?_  -- op t102 := call F26{(*rivulet/device.Devices).Filters}(t101, 1:i64)
            refine vc (S1.callF rfl (filters_spec hd2 hoA 1) (take1 (atS at0) take0)) rfl ?_
            rintro fv _ ⟨frow, hfs, rfl⟩
            refine app ?_
            have hfs : IsSl 9 1 fv (strs (insS F x.f)) frow := hfs
            refine v0 (S0.move rfl) rfl <| ?_  -- op t104 := call F32{rivulet/rivuletref02.Same}(t102, t103)
            refine vcd (S1.callF rfl (same_spec hfs.rdS hs3.rdS (by omega)) (take1 at0 (take1 (atS at0) take0))) rfl ?_
            refine v0 (S0.not rfl) rfl <| vE <| ?_  -- cond
            refine WP.condFh rfl ((by simp)) ?_
            refine WP.skip <| WP.region <| v0 (S0.move rfl) rfl <| v0 (S0.ari rfl rfl rfl (wrap_i64 (by omega))) rfl <| v0 (S0.assign rfl) rfl <| vE <| ?_  -- roundend
            exact ⟨(i + 1, insS F x.f, c2, v3, row3), (by first | exact ⟨hlt, hd2, hoA, hs3⟩ | (dsimp only; exact ⟨hlt, hd2, hoA, hs3⟩)), (show M.length - (i + 1) < M.length - i by omega), ⟨⟨rfl, rfl, rfl, rfl, trivial⟩, rfl, rfl⟩, ⟨_, (take1 (atS at0) (take1 (atS at0) (take1 (atS (atS at0)) (take1 (atS (atS at0)) take0))))⟩⟩
          | false =>
            skip
            refine WP.condFh rfl (rfl) ?_
            rw [hon] at hd2 hoA hE
            have hF2 := askF_off hE
            rw [hF2] at hd2 hoA
            have hl2 := (hoA.all ⟨1, withoutS F [x.f], []⟩ (by simp)).lF
            dsimp only at hl2
            refine WP.skip <| WP.seq <| WP.seq <| WP.region <| v0 (S0.move rfl) rfl <| v0 (S0.cmp rfl rfl rfl) rfl <| v0 (S0.move rfl) rfl <| ?_  -- guard t91 (wants True) at t92 := fieldAddr 33 t7 3 [if #2=True]
            refine csTh (t := 91) rfl ((by simp [hE])) ?_
            refine gT rfl <| v0 (S0.fieldAddr rfl) rfl <| gT rfl <| v0 (S0.load rfl rfl) rfl <| gT rfl <| v0 (S0.not rfl) rfl <| v0 (S0.pickT rfl rfl) rfl <| vE <| ?_  -- cond
            refine WP.condTh rfl ((by rw [hon]; rfl)) ?_
            refine WP.region <| v0 (S0.move rfl) rfl <| v0 (S0.fieldAddr rfl) rfl <| v0 (S0.load rfl rfl) rfl <| vnv (S1.buildSlice rfl (qs := [(0, _)]) rfl rfl) rfl fun b99 => ?_  -- op t100 := call F31{rivulet/rivuletref05.Without}(t96, t99)
            refine vc (S1.callF rfl (rwithout_spec hhs.rdS (row_str (l := [x.f]) rfl) (by omega) (by simp)) (take1 (atS (atS (atS at0))) (take1 at0 take0))) rfl ?_
            rintro v3 _ ⟨row3, hs3, rfl⟩
            refine app ?_
            refine v0 (S0.assign rfl) rfl <| vE <| WP.seq <| WP.region <| v0 (S0.move rfl) rfl <| ?_  -- op t102 := call F26{(*rivulet/device.Devices).Filters}(t101, 1:i64)
            refine vc (S1.callF rfl (filters_spec hd2 hoA 1) (take1 (atS (atS (atS at0))) take0)) rfl ?_
            rintro fv _ ⟨frow, hfs, rfl⟩
            refine app ?_
            have hfs : IsSl 9 1 fv (strs (withoutS F [x.f])) frow := hfs
            refine v0 (S0.move rfl) rfl <| ?_  -- op t104 := call F32{rivulet/rivuletref02.Same}(t102, t103)
            refine vcd (S1.callF rfl (same_spec hfs.rdS hs3.rdS (by omega)) (take1 at0 (take1 (atS at0) take0))) rfl ?_
            refine v0 (S0.not rfl) rfl <| vE <| ?_  -- cond
            refine WP.condFh rfl ((by simp)) ?_
            refine WP.skip <| WP.region <| v0 (S0.move rfl) rfl <| v0 (S0.ari rfl rfl rfl (wrap_i64 (by omega))) rfl <| v0 (S0.assign rfl) rfl <| vE <| ?_  -- roundend
            exact ⟨(i + 1, withoutS F [x.f], c2, v3, row3), (by first | exact ⟨hlt, hd2, hoA, hs3⟩ | (dsimp only; exact ⟨hlt, hd2, hoA, hs3⟩)), (show M.length - (i + 1) < M.length - i by omega), ⟨⟨rfl, rfl, rfl, rfl, trivial⟩, rfl, rfl⟩, ⟨_, (take1 (atS at0) (take1 (atS at0) (take1 (atS (atS (atS (atS at0)))) (take1 (atS (atS (atS (atS at0)))) take0))))⟩⟩
        · skip
          have hF2 := askF_bad hE
          rw [hF2] at hd2 hoA
          refine csFh (t := 81) rfl ((by simp [hE])) ?_
          refine gF rfl rfl <| gF rfl rfl <| v0 (S0.pickF rfl rfl) rfl <| vE <| WP.condF rfl <| WP.skip <| WP.seq <| WP.seq <| WP.region <| v0 (S0.move rfl) rfl <| v0 (S0.cmp rfl rfl rfl) rfl <| v0 (S0.move rfl) rfl <| ?_  -- guard t91 (wants True) at t92 := fieldAddr 33 t7 3 [if #2=True]
          refine csFh (t := 91) rfl ((by simp [hE])) ?_
          refine gF rfl rfl <| gF rfl rfl <| gF rfl rfl <| v0 (S0.pickF rfl rfl) rfl <| vE <| WP.condF rfl <| WP.skip <| WP.seq <| WP.region <| v0 (S0.move rfl) rfl <| ?_  -- op t102 := call F26{(*rivulet/device.Devices).Filters}(t101, 1:i64)
          refine vc (S1.callF rfl (filters_spec hd2 hoA 1) (take1 at0 take0)) rfl ?_
          rintro fv _ ⟨frow, hfs, rfl⟩
          refine app ?_
          have hfs : IsSl 9 1 fv (strs F) frow := hfs
          refine v0 (S0.move rfl) rfl <| ?_  -- op t104 := call F32{rivulet/rivuletref02.Same}(t102, t103)
          refine vcd (S1.callF rfl (same_spec hfs.rdS hhs.rdS (by omega)) (take1 at0 (take1 (atS (atS at0)) take0))) rfl ?_
          refine v0 (S0.not rfl) rfl <| vE <| ?_  -- cond
          refine WP.condFh rfl ((by simp)) ?_
          refine WP.skip <| WP.region <| v0 (S0.move rfl) rfl <| v0 (S0.ari rfl rfl rfl (wrap_i64 (by omega))) rfl <| v0 (S0.assign rfl) rfl <| vE <| ?_  -- roundend
          exact ⟨(i + 1, F, c2, .slice ha F.length hcap, hrw), (by first | exact ⟨hlt, hd2, hoA, hhs⟩ | (dsimp only; exact ⟨hlt, hd2, hoA, hhs⟩)), (show M.length - (i + 1) < M.length - i by omega), ⟨⟨rfl, rfl, rfl, rfl, trivial⟩, rfl, rfl⟩, ⟨_, (take1 (atS at0) (take1 (atS at0) (take1 (atS (atS at0)) (take1 (atS (atS at0)) take0))))⟩⟩
  · skip
    refine WP.exit <| WP.seq <| WP.region <| ?_  -- op t106 := call F23{rivulet/rivuletlaw19.fixed}()
    refine vcd (S1.callF rfl (fixed_spec) take0) rfl ?_
    refine v0 (S0.assign rfl) rfl <| vE <| WP.ret <| ?_  -- ret
    refine Leaves.drop (take1 (atS (atS (atS at0))) take0) ?_
    refine r1 rfl rfl ?_
    exact ⟨rfl, rfl⟩
end Go.Proofs.YtanecnnfpdhadaaGreatDoor
/- L9 -/
namespace Go.Proofs.YtanecnnfpdhadaaGreatDoor
open Go

/-- a flat struct that is handed in -/
def ArgA (ks : List CK) (v : Value) : Prop := ∃ cs : List Value, v = .agg ⟨cs⟩ ∧ cs.length = ks.length ∧ FitsAt ks cs 0
theorem open_aggF {H : Type} {enc : TypeId × Value → H} {P : Program} {W : World} {sp : Nat → Bool} {r : Reach} {b0 : Nat} {t : TypeId} {ks : List CK} {v : Value} {d : DataW H} {ps : List MemPlace} {fs : Array Field} (m : Nat) (ht : P.underlying t = some (.struct fs)) (he : flatTy P m t = some ks) (hk : P.cellsOf t = ks.length) (hval : Value.okWide P W r b0 t v)
    (h : DataW.Trod enc P W 0 sp true t v d ps) : ArgA ks v := by
  obtain ⟨⟨cs⟩, rfl, hsz⟩ := WideShapes.okWide_struct ht hval
  obtain ⟨fuel, h⟩ := h
  refine ⟨cs, rfl, by rw [← hk, ← hsz]; simp, ?_⟩
  exact trod_flat m he (by simpa [Value.cells] using h)
abbrev evK : List CK := [.i .i64, .i .i64, .s, .s, .i .i64]
theorem argEv {v : Value} (h : ArgA evK v) : ∃ e : Ev, v = .agg ⟨evB e⟩ := by
  obtain ⟨cs, rfl, hl, hf⟩ := h
  obtain ⟨_, e0, n0, rfl, -⟩ := hf 0 _ rfl
  obtain ⟨_, e1, n1, rfl, -⟩ := hf 1 _ rfl
  obtain ⟨_, e2, n2, rfl, -⟩ := hf 2 _ rfl
  obtain ⟨_, e3, n3, rfl, -⟩ := hf 3 _ rfl
  obtain ⟨_, e4, n4, rfl, -⟩ := hf 4 _ rfl
  refine ⟨⟨n0, n1, n2, n3, n4⟩, ?_⟩
  have : cs = evB ⟨n0, n1, n2, n3, n4⟩ := by
    apply List.ext_getElem?
    intro j
    match j with
    | 0 => exact e0
    | 1 => exact e1
    | 2 => exact e2
    | 3 => exact e3
    | 4 => exact e4
    | j + 5 => rw [List.getElem?_eq_none (by rw [hl]; simp), List.getElem?_eq_none (by simp)]
  rw [this]
/-- the event of a call in its row -/
theorem op_ev {L : List Value} {m : Nat} {x : OpD} (h : (L.drop m).take 9 = enO x) : (L.drop (m + 4)).take 5 = evB x.e := by
  have := congrArg (List.drop 4) h
  rw [List.drop_take, List.drop_drop] at this
  exact this
set_option maxRecDepth 100000 in
set_option maxHeartbeats 2000000 in
theorem deviceSaves_walk (W : World) (lv : Value) (hl : ArgF W opK lv) (ev0 : Value) (hev : ArgA evK ev0) : FN Tryz.prog 7 [lv, ev0] [whole W] (fun v h => v = .bool true ∧ h = [whole W]) := by
  obtain ⟨l0, hrl⟩ := argOps hl
  obtain ⟨⟨g1, g2, g3, g4, g5⟩, rfl⟩ := argEv hev
  have hll := cutOs_len l0
  have hlx := cutOs_mem (l := l0)
  refine FN.intro 143 [(0, lv), (1, .agg ⟨[.int .i64 g1, .int .i64 g2, sv g3, sv g4, .int .i64 g5]⟩)] Tryz.func7 rfl (enters Tryz.func7 (by kernel_rfl) rfl) Tryz.ntmps7 rfl rfl ?_
  refine WP.seq <| WP.region <| vn (S1.box rfl rfl) rfl fun b3 => v0 (S0.assign rfl) rfl <| vE <| WP.seq <| WP.region <| v0 (S0.move rfl) rfl <| ?_  -- op t15 := call F9{rivulet/rivuletlaw19.Cut}(t14)
  refine vc (S1.callF rfl (cut_spec hrl) (take1 (atS at0) take0)) rfl ?_
  rintro _ _ ⟨row, hs, rfl⟩
  refine app ?_
  generalize cutOs l0 = M at hll hlx hs
  obtain ⟨ma, mcap, rfl, hmcap, hrow⟩ := IsSl.elems (k := 8) enO_len hs
  -- (nothing to walk: op t16 := call F10{rivulet/device.New}())
  refine vc (S1.callF rfl (new_spec) take0) rfl ?_
  rintro _ _ ⟨db, c0, rfl, hd0, rfl⟩
  refine app ?_
  refine v0 (S0.assign rfl) rfl <| v0 (S0.assign rfl) rfl <| vE <| WP.seq <| WP.region <| v0 (S0.fieldAddr rfl) rfl <| v0 (S0.load rfl rfl) rfl <| v0 (S0.fieldAddr rfl) rfl <| v0 (S0.load rfl rfl) rfl <| v0 (S0.lenSt rfl) rfl <| v0 (S0.min2 rfl rfl rfl) rfl <| ?_  -- op t23 := slice 9 t18 none t22 none
  rw [min120]
  refine v0 (S0.sliceSt (i := 0) (j := min g3.length 120) rfl rfl rfl ⟨Nat.zero_le _, by omega⟩) rfl <| ?_
  rw [take_min120]
  refine v0 (S0.fieldAddr rfl) rfl <| vs (S1.store rfl rfl (by first | rfl | exact IsSl.cv (by assumption))) <| vE <| WP.seq <| WP.region <| v0 (S0.fieldAddr rfl) rfl <| v0 (S0.load rfl rfl) rfl <| v0 (S0.fieldAddr rfl) rfl <| v0 (S0.load rfl rfl) rfl <| v0 (S0.lenSt rfl) rfl <| v0 (S0.min2 rfl rfl rfl) rfl <| ?_  -- op t31 := slice 9 t26 none t30 none
  rw [min120]
  refine v0 (S0.sliceSt (i := 0) (j := min g4.length 120) rfl rfl rfl ⟨Nat.zero_le _, by omega⟩) rfl <| ?_
  rw [take_min120]
  refine v0 (S0.fieldAddr rfl) rfl <| vs (S1.store rfl rfl (by first | rfl | exact IsSl.cv (by assumption))) <| vE <| WP.seq <| WP.seq <| WP.region <| v0 (S0.move rfl) rfl <| v0 (S0.nilP rfl rfl rfl rfl) rfl <| vE <| ?_  -- cond
  have hte : (g3.take 120).length ≤ 120 := by rw [List.length_take]; omega
  generalize g3.take 120 = t3 at hte
  generalize g4.take 120 = t4
  refine WP.condFh rfl (rfl) ?_
  refine WP.skip <| WP.seq <| WP.seq <| WP.region <| v0 (S0.assign rfl) rfl <| vE <| WP.block <| ?_  -- Code.loop
  refine WP.loop (fun st : Nat × DS × List Blk => st.1 ≤ M.length ∧ IsDev db st.2.1 st.2.2 ∧ DevOk st.2.1) (fun st : Nat × DS × List Blk => [(3, .pointer (some ⟨b3, 0, none⟩)), (5, .slice ma M.length mcap), (6, .pointer (some ⟨db, 0, none⟩)), (7, .int .i64 (st.1 : Int))]) (fun st : Nat × DS × List Blk => [st.2.2, row, whole W, [(b3, .cells ⟨[.int .i64 g1, .int .i64 g2, sv t3, sv t4, .int .i64 g5]⟩ 31 (0, 0))]]) (fun st : Nat × DS × List Blk => M.length - st.1) ((0, [], c0)) (⟨Nat.zero_le _, hd0, DevOk.nil⟩) ⟨rfl, rfl, rfl, rfl, trivial⟩ ⟨_, (take1 at0 (take1 at0 (take1 at0 (take1 at0 take0))))⟩ (fun st hinv => ?_) 
  obtain ⟨i, S, c⟩ := st
  obtain ⟨hi, hd, ho⟩ := hinv
  dsimp only at hi hd ho ⊢
  refine WP.seq <| WP.seq <| WP.region <| v0 (S0.move rfl) rfl <| v0 (S0.move rfl) rfl <| v0 (S0.lenSl rfl) rfl <| v0 (S0.cmp rfl rfl rfl) rfl <| vE <| ?_  -- cond
  first | refine WP.condP rfl (fun h1 => ?_) (fun h1 => ?_) | refine WP.condN rfl (fun h1 => ?_) (fun h1 => ?_) | refine WP.cond rfl (fun h1 => ?_) (fun h1 => ?_)
  · skip
    have hlt : i < M.length := by omega
    rcases hrow with ⟨e, -⟩ | ⟨b1, sp1, rfl, rfl, hsp1⟩
    · rw [e] at hlt; simp at hlt
    have hx : M[i]? = some M[i] := by simp [hlt]
    have hxl := hlx _ (List.getElem_mem hlt)
    generalize M[i] = x at hx hxl
    have gA : ((M.flatMap enO ++ sp1).drop (i * 9)).take 9 = enO x := flat_take enO_len sp1 M i _ hx
    have gE := op_ev gA
    have q0 := flat_get enO_len sp1 M i 0 x hx (by decide)
    have q1 := flat_get enO_len sp1 M i 1 x hx (by decide)
    have q2 := flat_get enO_len sp1 M i 2 x hx (by decide)
    have q3 := flat_get enO_len sp1 M i 3 x hx (by decide)
    refine WP.skip <| WP.seq <| WP.block <| WP.seq <| WP.region <| v0 (S0.move rfl) rfl <| v0 (S0.move rfl) rfl <| ?_  -- op t43 := indexAddr 22 t41 t42
    refine v0 (S0.indexN (k := 9) rfl rfl hlt) rfl <| ?_
    refine v0 (S0.fieldAddr rfl) rfl <| ?_  -- limit
    refine v0 (S0.load (v := .int .i64 x.k) rfl q0) rfl <| ?_
    refine vE <| WP.block <| WP.seq <| WP.region <| v0 (S0.cmp rfl rfl rfl) rfl <| v0 (S0.assign rfl) rfl <| vE <| ?_  -- cond
    first | refine WP.condP rfl (fun k0 => ?_) (fun k0 => ?_) | refine WP.condN rfl (fun k0 => ?_) (fun k0 => ?_) | refine WP.cond rfl (fun k0 => ?_) (fun k0 => ?_)
    · skip
      have ho2 := ho.join x.i
      refine WP.region <| v0 (S0.move rfl) rfl <| v0 (S0.move rfl) rfl <| v0 (S0.move rfl) rfl <| ?_  -- op t58 := indexAddr 22 t56 t57
      refine v0 (S0.indexN (k := 9) rfl rfl hlt) rfl <| ?_
      refine v0 (S0.fieldAddr rfl) rfl <| ?_  -- limit
      refine v0 (S0.load (v := .int .i64 x.i) rfl q1) rfl <| ?_
      refine vc (S1.callF rfl (join_spec hd ho x.i) (take1 at0 take0)) rfl ?_
      rintro _ _ ⟨c1, hd1, rfl, rfl⟩
      refine app ?_
      refine vE <| WP.region <| v0 (S0.move rfl) rfl <| v0 (S0.ari rfl rfl rfl (wrap_i64 (by omega))) rfl <| v0 (S0.assign rfl) rfl <| vE <| ?_  -- roundend
      exact ⟨(i + 1, (joinD S x.i).2, c1), (by first | exact ⟨hlt, hd1, ho2⟩ | (dsimp only; exact ⟨hlt, hd1, ho2⟩)), (show M.length - (i + 1) < M.length - i by omega), ⟨⟨rfl, rfl, rfl, rfl, trivial⟩, rfl, rfl⟩, ⟨_, (take1 at0 (take1 at0 (take1 at0 (take1 at0 take0))))⟩⟩
    · skip
      refine WP.seq <| WP.region <| v0 (S0.cmp rfl rfl rfl) rfl <| v0 (S0.assign rfl) rfl <| vE <| ?_  -- cond
      first | refine WP.condP rfl (fun k1 => ?_) (fun k1 => ?_) | refine WP.condN rfl (fun k1 => ?_) (fun k1 => ?_) | refine WP.cond rfl (fun k1 => ?_) (fun k1 => ?_)
      · skip
        have ho2 := ho.leave x.i
        refine WP.region <| v0 (S0.move rfl) rfl <| v0 (S0.move rfl) rfl <| v0 (S0.move rfl) rfl <| ?_  -- op t67 := indexAddr 22 t65 t66
        refine v0 (S0.indexN (k := 9) rfl rfl hlt) rfl <| ?_
        refine v0 (S0.fieldAddr rfl) rfl <| ?_  -- limit
        refine v0 (S0.load (v := .int .i64 x.i) rfl q1) rfl <| ?_
        refine vc (S1.callF rfl (leave_spec hd x.i) (take1 at0 take0)) rfl ?_
        rintro _ _ ⟨c1, hd1, rfl, rfl⟩
        refine app ?_
        refine vE <| WP.region <| v0 (S0.move rfl) rfl <| v0 (S0.ari rfl rfl rfl (wrap_i64 (by omega))) rfl <| v0 (S0.assign rfl) rfl <| vE <| ?_  -- roundend
        exact ⟨(i + 1, (leaveD S x.i).2, c1), (by first | exact ⟨hlt, hd1, ho2⟩ | (dsimp only; exact ⟨hlt, hd1, ho2⟩)), (show M.length - (i + 1) < M.length - i by omega), ⟨⟨rfl, rfl, rfl, rfl, trivial⟩, rfl, rfl⟩, ⟨_, (take1 at0 (take1 at0 (take1 at0 (take1 at0 take0))))⟩⟩
      · skip
        refine WP.seq <| WP.region <| v0 (S0.cmp rfl rfl rfl) rfl <| v0 (S0.assign rfl) rfl <| vE <| ?_  -- cond
        first | refine WP.condP rfl (fun k2 => ?_) (fun k2 => ?_) | refine WP.condN rfl (fun k2 => ?_) (fun k2 => ?_) | refine WP.cond rfl (fun k2 => ?_) (fun k2 => ?_)
        · skip
          have ho2 := ho.ask x.i x.f x.on
          skip
          refine WP.drawP [(0, none), (1, none), (2, none), (3, none), (4, none), (5, none), (6, none), (7, none), (8, none), (9, none), (10, none), (11, none), (12, none), (13, none), (14, none), (15, none), (16, none)] mixed (by kernel_rfl) (by kernel_rfl) (by kernel_rfl) (take1 (atS at0) take0) <| w0 rfl rfl rfl (S0.move rfl) rfl <| w0 rfl rfl rfl (S0.move rfl) rfl <| w0 rfl rfl rfl (S0.move rfl) rfl <| ?_  -- op t76 := indexAddr 22 t74 t75
          refine w0 rfl rfl rfl (S0.indexN (k := 9) rfl rfl hlt) rfl <| ?_
          refine w0 rfl rfl rfl (S0.fieldAddr rfl) rfl <| ?_  -- limit
          refine w0 rfl rfl rfl (S0.load (v := .int .i64 x.i) rfl q1) rfl <| ?_
          refine w0 rfl rfl rfl (S0.move rfl) rfl <| w0 rfl rfl rfl (S0.move rfl) rfl <| ?_  -- op t81 := indexAddr 22 t79 t80
          refine w0 rfl rfl rfl (S0.indexN (k := 9) rfl rfl hlt) rfl <| ?_
          refine w0 rfl rfl rfl (S0.fieldAddr rfl) rfl <| ?_  -- limit
          refine w0 rfl rfl rfl (S0.load (v := sv x.f) rfl q2) rfl <| ?_
          refine w0 rfl rfl rfl (S0.move rfl) rfl <| w0 rfl rfl rfl (S0.move rfl) rfl <| ?_  -- op t86 := indexAddr 22 t84 t85
          refine w0 rfl rfl rfl (S0.indexN (k := 9) rfl rfl hlt) rfl <| ?_
          refine w0 rfl rfl rfl (S0.fieldAddr rfl) rfl <| ?_  -- limit
          refine w0 rfl rfl rfl (S0.load (v := .bool x.on) rfl q3) rfl <| ?_
          refine wc rfl rfl rfl rfl (S1.callF rfl (ask_spec hd ho x.i (f := x.f) (by omega) x.on) (take1 at0 take0)) rfl ?_
          rintro _ _ ⟨c1, hd1, rfl, rfl⟩
          refine wapp ?_
          refine wE <| WP.region <| v0 (S0.move rfl) rfl <| v0 (S0.ari rfl rfl rfl (wrap_i64 (by omega))) rfl <| v0 (S0.assign rfl) rfl <| vE <| ?_  -- roundend
          exact ⟨(i + 1, (askD S x.i x.f x.on).2, c1), (by first | exact ⟨hlt, hd1, ho2⟩ | (dsimp only; exact ⟨hlt, hd1, ho2⟩)), (show M.length - (i + 1) < M.length - i by omega), ⟨⟨rfl, rfl, rfl, rfl, trivial⟩, rfl, rfl⟩, ⟨_, (take1 (atS at0) (take1 at0 (take1 at0 (take1 at0 take0))))⟩⟩
        · skip
          have ho2 := ho.offer x.e
          refine WP.region <| v0 (S0.move rfl) rfl <| v0 (S0.move rfl) rfl <| v0 (S0.move rfl) rfl <| ?_  -- op t49 := indexAddr 22 t47 t48
          refine v0 (S0.indexN (k := 9) rfl rfl hlt) rfl <| ?_
          refine v0 (S0.fieldAddr rfl) rfl <| ?_  -- limit
          refine v0 (S0.loadA rfl gE rfl) rfl <| ?_
          refine vc (S1.callF rfl (offer_spec hd ho (e := x.e) hxl.2.1) (take1 at0 take0)) rfl ?_
          rintro v1 _ ⟨c1, q5, hd1, hs1, rfl⟩
          refine app ?_
          refine vE <| WP.region <| v0 (S0.move rfl) rfl <| v0 (S0.ari rfl rfl rfl (wrap_i64 (by omega))) rfl <| v0 (S0.assign rfl) rfl <| vE <| ?_  -- roundend
          exact ⟨(i + 1, (offerD S x.e).2, c1), (by first | exact ⟨hlt, hd1, ho2⟩ | (dsimp only; exact ⟨hlt, hd1, ho2⟩)), (show M.length - (i + 1) < M.length - i by omega), ⟨⟨rfl, rfl, rfl, rfl, trivial⟩, rfl, rfl⟩, ⟨_, (take1 (atS at0) (take1 (atS at0) (take1 (atS at0) (take1 (atS at0) take0))))⟩⟩
  · skip
    have hsl := save_le ho
    have ho2 := ho.offer ⟨g1, g2, t3, t4, g5⟩
    have hol := offer_len ho ⟨g1, g2, t3, t4, g5⟩
    refine WP.exit <| WP.seq <| WP.region <| v0 (S0.move rfl) rfl <| ?_  -- op t91 := call F21{(*rivulet/device.Devices).Save}(t90)
    refine vcd (S1.callF rfl (save_spec hd ho) (take1 at0 take0)) rfl ?_
    refine v0 (S0.assign rfl) rfl <| vE <| WP.seq <| WP.region <| v0 (S0.move rfl) rfl <| ?_  -- op t94 := call F20{rivulet/device.Load}(t93)
    refine vc (S1.callF rfl (loadc (s := saveD S) (by omega) (load_save ho)) take0) rfl ?_
    rintro _ _ ⟨od, oc, oj, -, hd2, rfl, rfl⟩
    refine app ?_
    refine v0 (S0.move rfl) rfl <| v0 (S0.extract rfl rfl) rfl <| v0 (S0.extract rfl rfl) rfl <| v0 (S0.assign rfl) rfl <| v0 (S0.assign rfl) rfl <| vE <| WP.seq <| WP.seq <| WP.region <| v0 (S0.move rfl) rfl <| v0 (S0.nilP rfl rfl rfl rfl) rfl <| v0 (S0.move rfl) rfl <| ?_  -- guard t99 (wants False) at t100 := move t10 [if #2=False]
    refine csFh (t := 99) rfl (rfl) ?_
    refine gT rfl <| v0 (S0.move rfl) rfl <| gT rfl <| v0 (S0.cmp rfl rfl rfl) rfl <| v0 (S0.pickF rfl rfl) rfl <| v0 (S0.move rfl) rfl <| ?_  -- guard t103 (wants False) at t104 := move t9 [if #6=False]
    refine csFh (t := 103) rfl (rfl) ?_
    refine gT rfl <| v0 (S0.move rfl) rfl <| ?_  -- op t105 := call F21{(*rivulet/device.Devices).Save}(t104) [if #6=False]
    refine gT rfl <| vcd (S1.callF rfl (save_spec hd2 ho) (take1 at0 take0)) rfl ?_
    refine gT rfl <| v0 (S0.move rfl) rfl <| gT rfl <| v0 (S0.cmpS rfl rfl rfl) rfl <| v0 (S0.pickF rfl rfl) rfl <| vE <| ?_  -- cond
    refine WP.condFh rfl ((by simp)) ?_
    skip
    refine WP.skip <| WP.seq <| WP.drawP [(0, none), (1, none), (3, none), (4, none), (2, none), (5, none), (6, none), (7, none)] mixed (by kernel_rfl) (by kernel_rfl) (by kernel_rfl) (take1 (atS (atS (atS (atS (atS at0))))) take0) <| w0 rfl rfl rfl (S0.move rfl) rfl <| w0 rfl rfl rfl (S0.loadAL rfl) rfl <| w0 rfl rfl rfl (S0.move rfl) rfl <| w0 rfl rfl rfl (S0.loadAL rfl) rfl <| ?_  -- op t111 := call F18{(*rivulet/device.Devices).Offer}(t109, t110)
    refine wc rfl rfl rfl rfl (S1.callF rfl (offer_spec hd2 ho (e := ⟨g1, g2, t3, t4, g5⟩) hte) (take1 at0 take0)) rfl ?_
    rintro xv _ ⟨c3, q3, hd3, hs3, rfl⟩
    refine wapp ?_
    -- (nothing to walk: op t114 := call F18{(*rivulet/device.Devices).Offer}(t112, t113))
    refine wc rfl rfl rfl rfl (S1.callF rfl (offer_spec hd ho (e := ⟨g1, g2, t3, t4, g5⟩) hte) (take1 (atS (atS (atS at0))) take0)) rfl ?_
    rintro yv _ ⟨c4, q4, hd4, hs4, rfl⟩
    refine wapp ?_
    generalize (offerD S ⟨g1, g2, t3, t4, g5⟩).2 = S2 at hd3 hd4 ho2
    generalize (offerD S ⟨g1, g2, t3, t4, g5⟩).1 = G at hs3 hs4 hol
    obtain ⟨xa, xc, rfl, hxc, hxr⟩ := hs3.intsE
    obtain ⟨ya, yc, rfl, hyc, hyr⟩ := hs4.intsE
    refine w0 rfl rfl rfl (S0.assign rfl) rfl <| w0 rfl rfl rfl (S0.assign rfl) rfl <| wE <| WP.seq <| WP.seq <| WP.region <| v0 (S0.move rfl) rfl <| v0 (S0.lenSl rfl) rfl <| v0 (S0.move rfl) rfl <| v0 (S0.lenSl rfl) rfl <| v0 (S0.cmp rfl rfl rfl) rfl <| vE <| ?_  -- cond
    refine WP.condFh rfl ((by simp)) ?_
    refine WP.skip <| WP.seq <| WP.seq <| WP.region <| v0 (S0.assign rfl) rfl <| vE <| WP.block <| ?_  -- Code.loop
    refine WP.loop (fun k : Nat => k ≤ G.length) (fun k : Nat => [(6, .pointer (some ⟨db, 0, none⟩)), (9, .pointer (some ⟨od, 0, none⟩)), (11, .slice xa G.length xc), (12, .slice ya G.length yc), (13, .int .i64 (k : Int))]) (fun k : Nat => [q3, q4, c3, c4, whole W]) (fun k : Nat => G.length - k) (0) (Nat.zero_le _) ⟨rfl, rfl, rfl, rfl, rfl, trivial⟩ ⟨[oj, row, [(b3, .cells ⟨[.int .i64 g1, .int .i64 g2, sv t3, sv t4, .int .i64 g5]⟩ 31 (0, 0))]], (pm fun a_ => by (try simp only [List.flatten_append, List.flatten_cons, List.flatten_nil, List.append_nil, List.cons_append, List.nil_append, List.append_assoc, nOf_app, nOf_cons, nOf_nil, Nat.add_zero, Nat.zero_add, List.map_append, List.map_cons, List.map_nil, cel, sv]); first | done | omega)⟩ (fun k hinv => ?_) 
    refine WP.seq <| WP.seq <| WP.region <| v0 (S0.move rfl) rfl <| v0 (S0.move rfl) rfl <| v0 (S0.lenSl rfl) rfl <| v0 (S0.cmp rfl rfl rfl) rfl <| vE <| ?_  -- cond
    first | refine WP.condP rfl (fun h2 => ?_) (fun h2 => ?_) | refine WP.condN rfl (fun h2 => ?_) (fun h2 => ?_) | refine WP.cond rfl (fun h2 => ?_) (fun h2 => ?_)
    · skip
      have hlt2 : k < G.length := by omega
      have hz : G[k]? = some G[k] := by simp [hlt2]
      generalize G[k] = z at hz
      rcases hxr with ⟨e, -⟩ | ⟨b2, sp2, rfl, rfl, hsp2⟩
      · rw [e] at hlt2; simp at hlt2
      rcases hyr with ⟨e, -⟩ | ⟨b4, sp4, rfl, rfl, hsp4⟩
      · rw [e] at hlt2; simp at hlt2
      skip
      refine WP.skip <| WP.seq <| WP.block <| WP.seq <| WP.drawP [(0, none), (1, none), (2, none), (3, none), (4, none), (5, none), (6, none), (7, none), (8, none)] mixed (by kernel_rfl) (by kernel_rfl) (by kernel_rfl) (take1 at0 (take1 at0 take0)) <| w0 rfl rfl rfl (S0.move rfl) rfl <| w0 rfl rfl rfl (S0.move rfl) rfl <| ?_  -- op t128 := indexAddr 38 t126 t127
      refine w0 rfl rfl rfl (S0.index1 rfl rfl hlt2) rfl <| ?_
      refine w0 rfl rfl rfl (S0.load rfl (ints_get hz)) rfl <| ?_
      refine w0 rfl rfl rfl (S0.move rfl) rfl <| w0 rfl rfl rfl (S0.move rfl) rfl <| ?_  -- op t132 := indexAddr 38 t130 t131
      refine w0 rfl rfl rfl (S0.index1 rfl rfl hlt2) rfl <| ?_
      refine w0 rfl rfl rfl (S0.load rfl (ints_get hz)) rfl <| ?_
      refine w0 rfl rfl rfl (S0.cmp rfl rfl rfl) rfl <| wE <| ?_  -- cond
      refine WP.condFh rfl ((by simp)) ?_
      refine WP.skip <| WP.region <| v0 (S0.move rfl) rfl <| v0 (S0.ari rfl rfl rfl (wrap_i64 (by omega))) rfl <| v0 (S0.assign rfl) rfl <| vE <| ?_  -- roundend
      exact ⟨k + 1, (by first | exact hlt2 | (dsimp only; exact hlt2)), (by omega), ⟨⟨rfl, rfl, rfl, rfl, rfl, trivial⟩, rfl, rfl⟩, ⟨_, (take1 at0 (take1 at0 (take1 at0 (take1 at0 (take1 at0 take0)))))⟩⟩
    · skip
      refine WP.exit <| WP.seq <| WP.region <| v0 (S0.move rfl) rfl <| ?_  -- op t136 := call F21{(*rivulet/device.Devices).Save}(t135)
      refine vcd (S1.callF rfl (save_spec hd3 ho2) (take1 (atS (atS at0)) take0)) rfl ?_
      refine v0 (S0.move rfl) rfl <| ?_  -- op t138 := call F21{(*rivulet/device.Devices).Save}(t137)
      refine vcd (S1.callF rfl (save_spec hd4 ho2) (take1 (atS (atS (atS at0))) take0)) rfl ?_
      refine v0 (S0.cmpS rfl rfl rfl) rfl <| v0 (S0.move rfl) rfl <| ?_  -- guard t140 (wants True) at t141 := call F23{rivulet/rivuletlaw19.fixed}() [if #5=True]
      refine csTh (t := 140) rfl ((by simp)) ?_
      -- (nothing to walk: op t141 := call F23{rivulet/rivuletlaw19.fixed}() [if #5=True])
      refine gT rfl <| vcd (S1.callF rfl (fixed_spec) take0) rfl ?_
      refine v0 (S0.pickT rfl rfl) rfl <| v0 (S0.assign rfl) rfl <| vE <| WP.ret <| ?_  -- ret
      refine Leaves.drop (take1 (atS (atS (atS (atS at0)))) take0) ?_
      refine r1 rfl rfl ?_
      exact ⟨rfl, rfl⟩
end Go.Proofs.YtanecnnfpdhadaaGreatDoor
/- L10 -/
namespace Go.Proofs.YtanecnnfpdhadaaGreatDoor
open Go

/-! rows of rows -/
abbrev VR := Value × List Blk
abbrev vals (R : List VR) : List Value := R.map (·.1)
def blksV (R : List VR) : List Blk := R.flatMap (·.2)
theorem blksV_snoc (R : List VR) (r : VR) : blksV (R ++ [r]) = blksV R ++ r.2 := by simp [blksV]
theorem vals_flat (Q : List VR) : vals Q = Q.flatMap fun x => [x.1] := by
  induction Q with
  | nil => rfl
  | cons x l ih => rw [List.flatMap_cons, ← ih]; rfl
theorem IsSl.valsE {E : TypeId} {R : List VR} {v : Value} {row : List Blk} (h : IsSl E 1 v (vals R) row) :
    ∃ a cap, v = .slice a R.length cap ∧ R.length ≤ cap ∧ ((R = [] ∧ row = [] ∧ a = none ∧ cap = 0) ∨ ∃ b sp, a = some ⟨b, 0, none⟩ ∧ row = [(b, .cells ⟨vals R ++ sp⟩ E (0, 0))] ∧ (vals R ++ sp).length = cap) := by
  rw [vals_flat] at h
  obtain ⟨a, cap, e, hc, hr⟩ := IsSl.elems (k := 0) (fun _ => rfl) h
  refine ⟨a, cap, e, hc, hr.imp id ?_⟩
  rintro ⟨b, sp, e1, e2, e3⟩
  exact ⟨b, sp, e1, by rw [vals_flat]; exact e2, by rw [vals_flat]; omega⟩
theorem vals_get {l : List VR} {sp : List Value} {i : Nat} {x : VR} (h : l[i]? = some x) : (vals l ++ sp)[i]? = some x.1 := by
  have hlt : i < l.length := (List.getElem?_eq_some_iff.1 h).1
  rw [List.getElem?_append_left (by simpa using hlt)]
  simp [h]
theorem blksV_at {R : List VR} {k : Nat} {r : VR} (h : R[k]? = some r) : ∃ C, (blksV R).Perm (r.2 ++ C) := by
  obtain ⟨hk, rfl⟩ := List.getElem?_eq_some_iff.1 h
  have e : R = R.take k ++ R[k] :: R.drop (k + 1) := by rw [← List.drop_eq_getElem_cons hk, List.take_append_drop]
  refine ⟨blksV (R.take k) ++ blksV (R.drop (k + 1)), ?_⟩
  conv => lhs; rw [e]
  unfold blksV
  rw [List.flatMap_append, List.flatMap_cons, ← List.append_assoc, ← List.append_assoc]
  exact List.Perm.append_right _ List.perm_append_comm
structure RowsF (R : List VR) (Y : DS) : Prop where
  len : R.length = Y.length
  row : ∀ (j : Nat) (r : VR) (y : Dv), R[j]? = some r → Y[j]? = some y → IsSl 9 1 r.1 (strs y.F) r.2
structure RowsM (R : List VR) (Y : DS) : Prop where
  len : R.length = Y.length
  row : ∀ (j : Nat) (r : VR) (y : Dv), R[j]? = some r → Y[j]? = some y → IsSl 54 2 r.1 (y.M.flatMap enM) r.2
theorem RowsF.snoc {R : List VR} {Y : DS} {r : VR} {y : Dv} (h : RowsF R Y) (hr : IsSl 9 1 r.1 (strs y.F) r.2) : RowsF (R ++ [r]) (Y ++ [y]) := by
  refine ⟨by simp [h.len], fun j r' y' h1 h2 => ?_⟩
  by_cases hj : j < R.length
  · rw [List.getElem?_append_left hj] at h1
    rw [List.getElem?_append_left (by rw [← h.len]; exact hj)] at h2
    exact h.row j r' y' h1 h2
  · rw [List.getElem?_append_right (by omega)] at h1
    rw [List.getElem?_append_right (by rw [← h.len]; omega), ← h.len] at h2
    have hz : j - R.length = 0 := by
      have := (List.getElem?_eq_some_iff.1 h1).1
      simp at this; omega
    rw [hz] at h1 h2
    cases h1; cases h2; exact hr
theorem RowsM.snoc {R : List VR} {Y : DS} {r : VR} {y : Dv} (h : RowsM R Y) (hr : IsSl 54 2 r.1 (y.M.flatMap enM) r.2) : RowsM (R ++ [r]) (Y ++ [y]) := by
  refine ⟨by simp [h.len], fun j r' y' h1 h2 => ?_⟩
  by_cases hj : j < R.length
  · rw [List.getElem?_append_left hj] at h1
    rw [List.getElem?_append_left (by rw [← h.len]; exact hj)] at h2
    exact h.row j r' y' h1 h2
  · rw [List.getElem?_append_right (by omega)] at h1
    rw [List.getElem?_append_right (by rw [← h.len]; omega), ← h.len] at h2
    have hz : j - R.length = 0 := by
      have := (List.getElem?_eq_some_iff.1 h1).1
      simp at this; omega
    rw [hz] at h1 h2
    cases h1; cases h2; exact hr
/-! who leaves and comes again -/
theorem del_len {S : DS} {q : Int} {y : Dv} (ha : S.Pairwise fun x y => x.i < y.i) (hf : findD S q = some y) : (delD S q).length + 1 = S.length := by
  induction S with
  | nil => cases hf
  | cons x S ih =>
    obtain ⟨h1, h2⟩ := List.pairwise_cons.1 ha
    simp only [findD] at hf
    unfold delD at ih ⊢
    by_cases e : x.i = q
    · rw [List.filter_cons_of_neg (by simp [e])]
      have : S.filter (fun z => !decide (z.i = q)) = S := List.filter_eq_self.2 fun z hz => by
        have := h1 z hz
        have : z.i ≠ q := by omega
        simp [this]
      rw [this]; rfl
    · rw [if_neg e] at hf
      rw [List.filter_cons_of_pos (by simp [e]), List.length_cons, List.length_cons, ih h2 hf]
theorem leave_in {S : DS} {q : Int} {y : Dv} (ho : DevOk S) (hf : findD S q = some y) :
    leaveD S q = (0, delD S q) ∧ joinD (delD S q) q = (0, insD (delD S q) ⟨q, [], []⟩) ∧ findD (insD (delD S q) ⟨q, [], []⟩) q = some ⟨q, [], []⟩ ∧ (insD (delD S q) ⟨q, [], []⟩).length = S.length ∧ ∀ j, j ≠ q → findD (insD (delD S q) ⟨q, [], []⟩) j = findD S j := by
  have hl := del_len ho.asc hf
  have hlS := ho.len
  obtain ⟨hm, hi⟩ := find_mem hf
  have hid := (ho.all y hm).id
  have hn : findD (delD S q) q = none := by rw [find_del]; simp
  refine ⟨by unfold leaveD; rw [hf]; rfl, ?_, ?_, by rw [insD_len]; exact hl, fun j hj => ?_⟩
  · unfold joinD
    rw [if_neg (by omega), hn, if_neg (by simp), if_neg (by omega)]
  · rw [find_ins (y := ⟨q, [], []⟩) hn]; simp
  · rw [find_ins (y := ⟨q, [], []⟩) hn, if_neg hj, find_del, if_neg hj]
theorem leave_out {S : DS} {q : Int} (hf : findD S q = none) : leaveD S q = (8, S) := by unfold leaveD; rw [hf]; rfl
end Go.Proofs.YtanecnnfpdhadaaGreatDoor
/- L11 -/
namespace Go.Proofs.YtanecnnfpdhadaaGreatDoor
open Go

set_option maxRecDepth 100000 in
set_option maxHeartbeats 2000000 in
theorem deviceFresh_walk (W : World) (lv : Value) (hl : ArgF W opK lv) (q : Int) : FN Tryz.prog 8 [lv, .int .i64 q] [whole W] (fun v h => v = .bool true ∧ h = [whole W]) := by
  obtain ⟨l0, hrl⟩ := argOps hl
  have hll := cutOs_len l0
  have hlx := cutOs_mem (l := l0)
  refine FN.intro 178 [(0, lv), (1, .int .i64 q)] Tryz.func8 rfl (enters Tryz.func8 (by kernel_rfl) rfl) Tryz.ntmps8 rfl rfl ?_
  refine WP.seq <| WP.region <| v0 (S0.assign rfl) rfl <| vE <| WP.seq <| WP.region <| v0 (S0.move rfl) rfl <| ?_  -- op t15 := call F9{rivulet/rivuletlaw19.Cut}(t14)
  refine vc (S1.callF rfl (cut_spec hrl) (take1 at0 take0)) rfl ?_
  rintro _ _ ⟨row, hs, rfl⟩
  refine app ?_
  generalize cutOs l0 = M at hll hlx hs
  obtain ⟨ma, mcap, rfl, hmcap, hrow⟩ := IsSl.elems (k := 8) enO_len hs
  -- (nothing to walk: op t16 := call F10{rivulet/device.New}())
  refine vc (S1.callF rfl (new_spec) take0) rfl ?_
  rintro _ _ ⟨db, c0, rfl, hd0, rfl⟩
  refine app ?_
  refine v0 (S0.assign rfl) rfl <| v0 (S0.assign rfl) rfl <| vE <| WP.seq <| WP.seq <| WP.region <| v0 (S0.move rfl) rfl <| v0 (S0.nilP rfl rfl rfl rfl) rfl <| vE <| ?_  -- cond
  refine WP.condFh rfl (rfl) ?_
  refine WP.skip <| WP.seq <| WP.seq <| WP.region <| v0 (S0.assign rfl) rfl <| vE <| WP.block <| ?_  -- Code.loop
  refine WP.loop (fun st : Nat × DS × List Blk => st.1 ≤ M.length ∧ IsDev db st.2.1 st.2.2 ∧ DevOk st.2.1) (fun st : Nat × DS × List Blk => [(1, .int .i64 q), (5, .slice ma M.length mcap), (6, .pointer (some ⟨db, 0, none⟩)), (7, .int .i64 (st.1 : Int))]) (fun st : Nat × DS × List Blk => [st.2.2, row, whole W]) (fun st : Nat × DS × List Blk => M.length - st.1) ((0, [], c0)) (⟨Nat.zero_le _, hd0, DevOk.nil⟩) ⟨rfl, rfl, rfl, rfl, trivial⟩ ⟨_, (take1 at0 (take1 at0 (take1 at0 take0)))⟩ (fun st hinv => ?_) 
  obtain ⟨i, S, c⟩ := st
  obtain ⟨hi, hd, ho⟩ := hinv
  dsimp only at hi hd ho ⊢
  refine WP.seq <| WP.seq <| WP.region <| v0 (S0.move rfl) rfl <| v0 (S0.move rfl) rfl <| v0 (S0.lenSl rfl) rfl <| v0 (S0.cmp rfl rfl rfl) rfl <| vE <| ?_  -- cond
  first | refine WP.condP rfl (fun h1 => ?_) (fun h1 => ?_) | refine WP.condN rfl (fun h1 => ?_) (fun h1 => ?_) | refine WP.cond rfl (fun h1 => ?_) (fun h1 => ?_)
  · skip
    have hlt : i < M.length := by omega
    rcases hrow with ⟨e, -⟩ | ⟨b1, sp1, rfl, rfl, hsp1⟩
    · rw [e] at hlt; simp at hlt
    have hx : M[i]? = some M[i] := by simp [hlt]
    have hxl := hlx _ (List.getElem_mem hlt)
    generalize M[i] = x at hx hxl
    have gA : ((M.flatMap enO ++ sp1).drop (i * 9)).take 9 = enO x := flat_take enO_len sp1 M i _ hx
    have gE := op_ev gA
    have q0 := flat_get enO_len sp1 M i 0 x hx (by decide)
    have q1 := flat_get enO_len sp1 M i 1 x hx (by decide)
    have q2 := flat_get enO_len sp1 M i 2 x hx (by decide)
    have q3 := flat_get enO_len sp1 M i 3 x hx (by decide)
    refine WP.skip <| WP.seq <| WP.block <| WP.seq <| WP.region <| v0 (S0.move rfl) rfl <| v0 (S0.move rfl) rfl <| ?_  -- op t27 := indexAddr 22 t25 t26
    refine v0 (S0.indexN (k := 9) rfl rfl hlt) rfl <| ?_
    refine v0 (S0.fieldAddr rfl) rfl <| ?_  -- limit
    refine v0 (S0.load (v := .int .i64 x.k) rfl q0) rfl <| ?_
    refine vE <| WP.block <| WP.seq <| WP.region <| v0 (S0.cmp rfl rfl rfl) rfl <| v0 (S0.assign rfl) rfl <| vE <| ?_  -- cond
    first | refine WP.condP rfl (fun k0 => ?_) (fun k0 => ?_) | refine WP.condN rfl (fun k0 => ?_) (fun k0 => ?_) | refine WP.cond rfl (fun k0 => ?_) (fun k0 => ?_)
    · skip
      have ho2 := ho.join x.i
      refine WP.region <| v0 (S0.move rfl) rfl <| v0 (S0.move rfl) rfl <| v0 (S0.move rfl) rfl <| ?_  -- op t42 := indexAddr 22 t40 t41
      refine v0 (S0.indexN (k := 9) rfl rfl hlt) rfl <| ?_
      refine v0 (S0.fieldAddr rfl) rfl <| ?_  -- limit
      refine v0 (S0.load (v := .int .i64 x.i) rfl q1) rfl <| ?_
      refine vc (S1.callF rfl (join_spec hd ho x.i) (take1 at0 take0)) rfl ?_
      rintro _ _ ⟨c1, hd1, rfl, rfl⟩
      refine app ?_
      refine vE <| WP.region <| v0 (S0.move rfl) rfl <| v0 (S0.ari rfl rfl rfl (wrap_i64 (by omega))) rfl <| v0 (S0.assign rfl) rfl <| vE <| ?_  -- roundend
      exact ⟨(i + 1, (joinD S x.i).2, c1), (by first | exact ⟨hlt, hd1, ho2⟩ | (dsimp only; exact ⟨hlt, hd1, ho2⟩)), (show M.length - (i + 1) < M.length - i by omega), ⟨⟨rfl, rfl, rfl, rfl, trivial⟩, rfl, rfl⟩, ⟨_, (take1 at0 (take1 at0 (take1 at0 take0)))⟩⟩
    · skip
      refine WP.seq <| WP.region <| v0 (S0.cmp rfl rfl rfl) rfl <| v0 (S0.assign rfl) rfl <| vE <| ?_  -- cond
      first | refine WP.condP rfl (fun k2 => ?_) (fun k2 => ?_) | refine WP.condN rfl (fun k2 => ?_) (fun k2 => ?_) | refine WP.cond rfl (fun k2 => ?_) (fun k2 => ?_)
      · skip
        have ho2 := ho.ask x.i x.f x.on
        skip
        refine WP.drawP [(0, none), (1, none), (2, none), (3, none), (4, none), (5, none), (6, none), (7, none), (8, none), (9, none), (10, none), (11, none), (12, none), (13, none), (14, none), (15, none), (16, none)] mixed (by kernel_rfl) (by kernel_rfl) (by kernel_rfl) (take1 (atS at0) take0) <| w0 rfl rfl rfl (S0.move rfl) rfl <| w0 rfl rfl rfl (S0.move rfl) rfl <| w0 rfl rfl rfl (S0.move rfl) rfl <| ?_  -- op t51 := indexAddr 22 t49 t50
        refine w0 rfl rfl rfl (S0.indexN (k := 9) rfl rfl hlt) rfl <| ?_
        refine w0 rfl rfl rfl (S0.fieldAddr rfl) rfl <| ?_  -- limit
        refine w0 rfl rfl rfl (S0.load (v := .int .i64 x.i) rfl q1) rfl <| ?_
        refine w0 rfl rfl rfl (S0.move rfl) rfl <| w0 rfl rfl rfl (S0.move rfl) rfl <| ?_  -- op t56 := indexAddr 22 t54 t55
        refine w0 rfl rfl rfl (S0.indexN (k := 9) rfl rfl hlt) rfl <| ?_
        refine w0 rfl rfl rfl (S0.fieldAddr rfl) rfl <| ?_  -- limit
        refine w0 rfl rfl rfl (S0.load (v := sv x.f) rfl q2) rfl <| ?_
        refine w0 rfl rfl rfl (S0.move rfl) rfl <| w0 rfl rfl rfl (S0.move rfl) rfl <| ?_  -- op t61 := indexAddr 22 t59 t60
        refine w0 rfl rfl rfl (S0.indexN (k := 9) rfl rfl hlt) rfl <| ?_
        refine w0 rfl rfl rfl (S0.fieldAddr rfl) rfl <| ?_  -- limit
        refine w0 rfl rfl rfl (S0.load (v := .bool x.on) rfl q3) rfl <| ?_
        refine wc rfl rfl rfl rfl (S1.callF rfl (ask_spec hd ho x.i (f := x.f) (by omega) x.on) (take1 at0 take0)) rfl ?_
        rintro _ _ ⟨c1, hd1, rfl, rfl⟩
        refine wapp ?_
        refine wE <| WP.region <| v0 (S0.move rfl) rfl <| v0 (S0.ari rfl rfl rfl (wrap_i64 (by omega))) rfl <| v0 (S0.assign rfl) rfl <| vE <| ?_  -- roundend
        exact ⟨(i + 1, (askD S x.i x.f x.on).2, c1), (by first | exact ⟨hlt, hd1, ho2⟩ | (dsimp only; exact ⟨hlt, hd1, ho2⟩)), (show M.length - (i + 1) < M.length - i by omega), ⟨⟨rfl, rfl, rfl, rfl, trivial⟩, rfl, rfl⟩, ⟨_, (take1 (atS at0) (take1 at0 (take1 at0 take0)))⟩⟩
      · skip
        have ho2 := ho.offer x.e
        refine WP.region <| v0 (S0.move rfl) rfl <| v0 (S0.move rfl) rfl <| v0 (S0.move rfl) rfl <| ?_  -- op t33 := indexAddr 22 t31 t32
        refine v0 (S0.indexN (k := 9) rfl rfl hlt) rfl <| ?_
        refine v0 (S0.fieldAddr rfl) rfl <| ?_  -- limit
        refine v0 (S0.loadA rfl gE rfl) rfl <| ?_
        refine vc (S1.callF rfl (offer_spec hd ho (e := x.e) hxl.2.1) (take1 at0 take0)) rfl ?_
        rintro v1 _ ⟨c1, q5, hd1, hs1, rfl⟩
        refine app ?_
        refine vE <| WP.region <| v0 (S0.move rfl) rfl <| v0 (S0.ari rfl rfl rfl (wrap_i64 (by omega))) rfl <| v0 (S0.assign rfl) rfl <| vE <| ?_  -- roundend
        exact ⟨(i + 1, (offerD S x.e).2, c1), (by first | exact ⟨hlt, hd1, ho2⟩ | (dsimp only; exact ⟨hlt, hd1, ho2⟩)), (show M.length - (i + 1) < M.length - i by omega), ⟨⟨rfl, rfl, rfl, rfl, trivial⟩, rfl, rfl⟩, ⟨_, (take1 (atS at0) (take1 (atS at0) (take1 (atS at0) take0)))⟩⟩
  · skip
    have hlS := ho.len
    refine WP.exit <| WP.seq <| WP.region <| v0 (S0.move rfl) rfl <| ?_  -- op t66 := call F33{(*rivulet/device.Devices).Ids}(t65)
    refine vc (S1.callF rfl (ids_spec hd ho) (take1 at0 take0)) rfl ?_
    rintro iv _ ⟨idr, his, rfl⟩
    refine app ?_
    obtain ⟨ia, icap, rfl, hicap, hirow⟩ := his.intsE
    have hIL : (S.map (·.i)).length = S.length := List.length_map _
    refine v0 (S0.assign rfl) rfl <| vE <| WP.seq <| WP.region <| vnv (S1.buildSlice rfl (qs := []) rfl rfl) rfl fun b67 => vnv (S1.buildSlice rfl (qs := []) rfl rfl) rfl fun b68 => v0 (S0.assign rfl) rfl <| v0 (S0.assign rfl) rfl <| v0 (S0.assign rfl) rfl <| vE <| WP.seq <| WP.seq <| WP.region <| v0 (S0.assign rfl) rfl <| vE <| WP.block <| ?_  -- Code.loop
    refine WP.loop (fun st : Nat × Bool × Value × List Blk × List VR × Value × List Blk × List VR => st.1 ≤ S.length ∧ st.2.1 = decide (q ∈ (S.take st.1).map (·.i)) ∧ IsSl 51 1 st.2.2.1 (vals st.2.2.2.2.1) st.2.2.2.1 ∧ RowsF st.2.2.2.2.1 (S.take st.1) ∧ IsSl 49 1 st.2.2.2.2.2.1 (vals st.2.2.2.2.2.2.2) st.2.2.2.2.2.2.1 ∧ RowsM st.2.2.2.2.2.2.2 (S.take st.1)) (fun st : Nat × Bool × Value × List Blk × List VR × Value × List Blk × List VR => [(1, .int .i64 q), (6, .pointer (some ⟨db, 0, none⟩)), (8, .slice ia (S.map (·.i)).length icap), (9, .bool st.2.1), (10, st.2.2.1), (11, st.2.2.2.2.2.1), (12, .int .i64 (st.1 : Int))]) (fun st : Nat × Bool × Value × List Blk × List VR × Value × List Blk × List VR => [idr, st.2.2.2.1, blksV st.2.2.2.2.1, st.2.2.2.2.2.2.1, blksV st.2.2.2.2.2.2.2, c, whole W]) (fun st : Nat × Bool × Value × List Blk × List VR × Value × List Blk × List VR => S.length - st.1) ((0, false, .slice (some ⟨b67, 0, none⟩) 0 0, [(b67, .cells ⟨[]⟩ 51 (0, 0))], [], .slice (some ⟨b68, 0, none⟩) 0 0, [(b68, .cells ⟨[]⟩ 49 (0, 0))], [])) (⟨Nat.zero_le _, by simp, IsSl.row (n := 0) (c := 0) (l := []) (sp := []) rfl rfl (Nat.le_refl _), ⟨by simp, fun j r y h => by simp at h⟩, IsSl.row (n := 0) (c := 0) (l := []) (sp := []) rfl rfl (Nat.le_refl _), ⟨by simp, fun j r y h => by simp at h⟩⟩) ⟨rfl, rfl, rfl, rfl, rfl, rfl, rfl, trivial⟩ ⟨[row], (pm fun a_ => by (try simp only [List.flatten_append, List.flatten_cons, List.flatten_nil, List.append_nil, List.cons_append, List.nil_append, List.append_assoc, nOf_app, nOf_cons, nOf_nil, Nat.add_zero, Nat.zero_add, List.map_append, List.map_cons, List.map_nil, cel, sv, blksV, List.flatMap_nil]); first | done | omega)⟩ (fun st hinv => ?_) 
    obtain ⟨k, th, ov1, or1, R1, ov2, or2, R2⟩ := st
    obtain ⟨hk, hth, hs1, hR1, hs2, hR2⟩ := hinv
    dsimp only at hk hth hs1 hR1 hs2 hR2 ⊢
    have hl1 : R1.length = (S.take k).length := hR1.len
    have hl2 : R2.length = (S.take k).length := hR2.len
    have htl : (S.take k).length ≤ 16 := by rw [List.length_take]; omega
    refine WP.seq <| WP.seq <| WP.region <| v0 (S0.move rfl) rfl <| v0 (S0.move rfl) rfl <| v0 (S0.lenSl rfl) rfl <| v0 (S0.cmp rfl rfl rfl) rfl <| vE <| ?_  -- cond
    first | refine WP.condP rfl (fun h2 => ?_) (fun h2 => ?_) | refine WP.condN rfl (fun h2 => ?_) (fun h2 => ?_) | refine WP.cond rfl (fun h2 => ?_) (fun h2 => ?_)
    · skip
      have hlt : k < S.length := by omega
      have hy : S[k]? = some S[k] := by simp [hlt]
      have hyS := List.getElem_mem hlt
      generalize S[k] = y at hy hyS
      have hfy := find_of ho.asc hyS
      have hoy := ho.all y hyS
      have htk := take_one hy
      have hiy : (S.map (·.i))[k]? = some y.i := by simp [hy]
      rcases hirow with ⟨e1, -⟩ | ⟨b1, sp1, rfl, rfl, hsp1⟩
      · have := congrArg List.length e1; simp at this; rw [this] at hlt; simp at hlt
      refine WP.skip <| WP.seq <| WP.block <| ?_  -- cut
      refine WP.cutS (fun u : Bool => u = decide (q ∈ (S.take (k + 1)).map (·.i))) (fun u : Bool => [(1, .int .i64 q), (6, .pointer (some ⟨db, 0, none⟩)), (8, .slice (some ⟨b1, 0, none⟩) (S.map (·.i)).length icap), (9, .bool u), (10, ov1), (11, ov2), (12, .int .i64 (k : Int))]) (fun u : Bool => [[(b1, .cells ⟨ints (S.map (·.i)) ++ sp1⟩ 3 (0, 0))], or1, blksV R1, or2, blksV R2, c, whole W]) ?_ (fun u hinv => ?_)
      · refine WP.region <| v0 (S0.move rfl) rfl <| v0 (S0.move rfl) rfl <| ?_  -- guard t76 (wants False) at t77 := move t8 [if #1=False]
        skip
        cases th with
        | true =>
          skip
          refine csTh (t := 76) rfl (rfl) ?_
          refine gF rfl rfl <| gF rfl rfl <| gF rfl rfl <| gF rfl rfl <| gF rfl rfl <| gF rfl rfl <| v0 (S0.pickT rfl rfl) rfl <| v0 (S0.assign rfl) rfl <| vE <| ?_  -- cutend
          exact ⟨true, (by first | exact (by rw [htk]; simp at hth ⊢; exact .inl hth) | (dsimp only; exact (by rw [htk]; simp at hth ⊢; exact .inl hth))), ⟨⟨rfl, rfl, rfl, rfl, rfl, rfl, rfl, trivial⟩, rfl, rfl⟩, ⟨_, (take1 at0 (take1 at0 (take1 at0 (take1 at0 (take1 at0 (take1 at0 (take1 at0 take0)))))))⟩⟩
        | false =>
          skip
          refine csFh (t := 76) rfl (rfl) ?_
          refine gT rfl <| v0 (S0.move rfl) rfl <| gT rfl <| v0 (S0.move rfl) rfl <| ?_  -- op t79 := indexAddr 38 t77 t78 [if #1=False]
          refine gT rfl <| v0 (S0.index1 rfl rfl (by omega)) rfl <| ?_
          refine gT rfl <| v0 (S0.load rfl (ints_get hiy)) rfl <| ?_
          refine gT rfl <| v0 (S0.move rfl) rfl <| gT rfl <| v0 (S0.cmp rfl rfl rfl) rfl <| v0 (S0.pickF rfl rfl) rfl <| v0 (S0.assign rfl) rfl <| vE <| ?_  -- cutend
          exact ⟨(decide (y.i = q)), (by first | exact (by rw [htk]; simp at hth ⊢; simp [hth, eq_comm]) | (dsimp only; exact (by rw [htk]; simp at hth ⊢; simp [hth, eq_comm]))), ⟨⟨rfl, rfl, rfl, rfl, rfl, rfl, rfl, trivial⟩, rfl, rfl⟩, ⟨_, (take1 at0 (take1 at0 (take1 at0 (take1 at0 (take1 at0 (take1 at0 (take1 at0 take0)))))))⟩⟩
      · skip
        have hgf : fltD S y.i = y.F := flt_some hfy
        have hgm : mrkD S y.i = y.M := mrk_some hfy
        refine WP.seq <| WP.region <| v0 (S0.move rfl) rfl <| v0 (S0.move rfl) rfl <| v0 (S0.move rfl) rfl <| v0 (S0.move rfl) rfl <| ?_  -- op t88 := indexAddr 38 t86 t87
        refine v0 (S0.index1 rfl rfl (by omega)) rfl <| ?_
        refine v0 (S0.load rfl (ints_get hiy)) rfl <| ?_
        refine vc (S1.callF rfl (filters_spec hd ho y.i) (take1 (atS (atS (atS (atS (atS at0))))) take0)) rfl ?_
        rintro fv _ ⟨frow, hfs, rfl⟩
        refine app ?_
        rw [hgf] at hfs
        obtain ⟨fa, fcap, rfl, hfcap, -⟩ := hfs.strsE
        refine vnv (S1.buildSlice rfl (qs := [(0, _)]) rfl rfl) rfl fun b91 => ?_  -- op t92 := append(t84, t91) :[63, 63]
        refine ve (S1.appendL rfl hs1 rfl rfl (atS (atS (atS (atS at0)))) rfl rfl (by simp only [List.length_map, List.length_cons, List.length_nil]; omega)) rfl ?_
        rintro v3 _ ⟨or3, hs3, rfl⟩
        have hs3 : IsSl 51 1 v3 (vals (R1 ++ [(.slice fa y.F.length fcap, frow)])) or3 := by
          rw [vals, List.map_append]; exact hs3
        have hR3 : RowsF (R1 ++ [(.slice fa y.F.length fcap, frow)]) (S.take (k + 1)) := by rw [htk]; exact hR1.snoc hfs
        refine v0 (S0.assign rfl) rfl <| vE <| WP.region <| v0 (S0.move rfl) rfl <| v0 (S0.move rfl) rfl <| v0 (S0.move rfl) rfl <| v0 (S0.move rfl) rfl <| ?_  -- op t97 := indexAddr 38 t95 t96
        refine v0 (S0.index1 rfl rfl (by omega)) rfl <| ?_
        refine v0 (S0.load rfl (ints_get hiy)) rfl <| ?_
        refine vc (S1.callF rfl (mrks_spec hd ho y.i) (take1 (atS (atS (atS at0))) take0)) rfl ?_
        rintro mv _ ⟨mrow, hms, rfl⟩
        refine app ?_
        rw [hgm] at hms
        obtain ⟨xa, xcap, rfl, hxcap, -⟩ := IsSl.elems (k := 1) enM_len hms
        refine vnv (S1.buildSlice rfl (qs := [(0, _)]) rfl rfl) rfl fun b100 => ?_  -- op t101 := append(t93, t100) :[64, 64]
        refine ve (S1.appendL rfl hs2 rfl rfl (atS (atS (atS (atS (atS (atS (atS (atS at0)))))))) rfl rfl (by simp only [List.length_map, List.length_cons, List.length_nil]; omega)) rfl ?_
        rintro v4 _ ⟨or4, hs4, rfl⟩
        have hs4 : IsSl 49 1 v4 (vals (R2 ++ [(.slice xa y.M.length xcap, mrow)])) or4 := by
          rw [vals, List.map_append]; exact hs4
        have hR4 : RowsM (R2 ++ [(.slice xa y.M.length xcap, mrow)]) (S.take (k + 1)) := by rw [htk]; exact hR2.snoc hms
        have e1 := blksV_snoc R1 (.slice fa y.F.length fcap, frow)
        have e2 := blksV_snoc R2 (.slice xa y.M.length xcap, mrow)
        refine v0 (S0.assign rfl) rfl <| vE <| WP.region <| v0 (S0.move rfl) rfl <| v0 (S0.ari rfl rfl rfl (wrap_i64 (by omega))) rfl <| v0 (S0.assign rfl) rfl <| vE <| ?_  -- roundend
        exact ⟨(k + 1, u, v3, or3, R1 ++ [(.slice fa y.F.length fcap, frow)], v4, or4, R2 ++ [(.slice xa y.M.length xcap, mrow)]), (by first | exact ⟨hlt, hinv, hs3, hR3, hs4, hR4⟩ | (dsimp only; exact ⟨hlt, hinv, hs3, hR3, hs4, hR4⟩)), (show S.length - (k + 1) < S.length - k by omega), ⟨⟨rfl, rfl, rfl, rfl, rfl, rfl, rfl, trivial⟩, rfl, rfl⟩, ⟨[[(b91, cel [.slice fa y.F.length fcap] 51)], [(b100, cel [.slice xa y.M.length xcap] 49)]], (pm fun a_ => by (try simp only [List.flatten_append, List.flatten_cons, List.flatten_nil, List.append_nil, List.cons_append, List.nil_append, List.append_assoc, nOf_app, nOf_cons, nOf_nil, Nat.add_zero, Nat.zero_add, List.map_append, List.map_cons, List.map_nil, cel, sv, e1, e2]); first | done | omega)⟩⟩
    · skip
      have hk2 : k = S.length := by omega
      subst hk2
      rw [List.take_length] at hth hR1 hR2
      have hids : findD S q = none ↔ q ∉ S.map (·.i) := find_none
      have hoA := ho.leave q
      refine WP.exit <| WP.seq <| WP.seq <| WP.region <| v0 (S0.move rfl) rfl <| v0 (S0.move rfl) rfl <| ?_  -- op t104 := call F13{(*rivulet/device.Devices).Leave}(t102, t103)
      refine vc (S1.callF rfl (leave_spec hd q) (take1 (atS (atS (atS (atS (atS at0))))) take0)) rfl ?_
      rintro _ _ ⟨c1, hd1, rfl, rfl⟩
      refine app ?_
      refine v0 (S0.cmp rfl rfl rfl) rfl <| v0 (S0.move rfl) rfl <| v0 (S0.cmpB rfl rfl rfl) rfl <| vE <| ?_  -- cond
      refine WP.condFh rfl ((by
        cases hf : findD S q with
        | none => have h5 := hids.1 hf; rw [leave_out hf]; rw [hth]; simp at h5 ⊢; simpa using h5
        | some y => have h5 : q ∈ S.map (·.i) := Decidable.not_not.1 fun h => by rw [hids.2 h] at hf; cases hf
                    rw [(leave_in ho hf).1, hth]; simp at h5 ⊢; simpa using h5)) ?_
      refine WP.skip <| WP.seq <| ?_  -- cut
      refine WP.cutS (fun st : DS × List Blk × Bool => IsDev db st.1 st.2.1 ∧ DevOk st.1 ∧ (∀ j, j ≠ q → findD st.1 j = findD S j) ∧ st.1.length = S.length ∧ st.2.2 = false) (fun st : DS × List Blk × Bool => [(1, .int .i64 q), (6, .pointer (some ⟨db, 0, none⟩)), (8, .slice ia (S.map (·.i)).length icap), (10, ov1), (11, ov2), (128, .bool st.2.2)]) (fun st : DS × List Blk × Bool => [idr, or1, blksV R1, or2, blksV R2, st.2.1, whole W]) ?_ (fun st hinv => ?_)
      · refine WP.region <| v0 (S0.move rfl) rfl <| v0 (S0.move rfl) rfl <| ?_  -- guard t109 (wants True) at t110 := move t6 [if #1=True]
        skip
        cases th with
        | true =>
          skip
          have hin : q ∈ S.map (·.i) := by simpa using hth.symm
          obtain ⟨y, hf⟩ : ∃ y, findD S q = some y := by
            cases hf : findD S q with
            | none => exact absurd hin (hids.1 hf)
            | some y => exact ⟨y, rfl⟩
          obtain ⟨e1, e2, e3, e4, e5⟩ := leave_in ho hf
          rw [e1] at hd1 hoA
          dsimp only at hd1 hoA
          have hoB := hoA.join q
          rw [e2] at hoB
          dsimp only at hoB
          refine csTh (t := 109) rfl (rfl) ?_
          refine gT rfl <| v0 (S0.move rfl) rfl <| gT rfl <| v0 (S0.move rfl) rfl <| ?_  -- op t112 := call F11{(*rivulet/device.Devices).Join}(t110, t111) [if #1=True]
          refine gT rfl <| vc (S1.callF rfl (joinc hd1 hoA e2) (take1 at0 take0)) rfl ?_
          rintro _ _ ⟨c2, hd2, rfl, rfl⟩
          refine app ?_
          refine gT rfl <| v0 (S0.cmp rfl rfl rfl) rfl <| gT rfl <| v0 (S0.move rfl) rfl <| ?_  -- guard t114 (wants False) at t115 := move t6 [if #6=False]
          refine csFh (t := 114) rfl (rfl) ?_
          refine gT rfl <| v0 (S0.move rfl) rfl <| gT rfl <| v0 (S0.move rfl) rfl <| ?_  -- op t117 := call F26{(*rivulet/device.Devices).Filters}(t115, t116) [if #6=False]
          refine gT rfl <| vc (S1.callF rfl (filters_spec hd2 hoB q) (take1 at0 take0)) rfl ?_
          rintro fv _ ⟨frow, hfs, rfl⟩
          refine app ?_
          rw [flt_some e3] at hfs
          obtain ⟨fa, fcap, rfl, -, -⟩ := hfs.strsE
          refine gT rfl <| v0 (S0.lenSl rfl) rfl <| gT rfl <| v0 (S0.cmp rfl rfl rfl) rfl <| gT rfl <| v0 (S0.pickF rfl rfl) rfl <| gT rfl <| v0 (S0.move rfl) rfl <| ?_  -- guard t121 (wants False) at t122 := move t6 [if #13=False]
          refine csFh (t := 121) rfl (rfl) ?_
          refine gT rfl <| v0 (S0.move rfl) rfl <| gT rfl <| v0 (S0.move rfl) rfl <| ?_  -- op t124 := call F25{(*rivulet/device.Devices).Marks}(t122, t123) [if #13=False]
          refine gT rfl <| vc (S1.callF rfl (mrks_spec hd2 hoB q) (take1 (atS at0) take0)) rfl ?_
          rintro mv _ ⟨mrow, hms, rfl⟩
          refine app ?_
          rw [mrk_some e3] at hms
          obtain ⟨xa, xcap, rfl, -, -⟩ := IsSl.elems (k := 1) enM_len hms
          refine gT rfl <| v0 (S0.lenSl rfl) rfl <| gT rfl <| v0 (S0.cmp rfl rfl rfl) rfl <| gT rfl <| v0 (S0.pickF rfl rfl) rfl <| v0 (S0.pickT rfl rfl) rfl <| vE <| ?_  -- cutend
          exact ⟨(insD (delD S q) ⟨q, [], []⟩, c2, false), (by first | exact ⟨hd2, hoB, e5, e4, rfl⟩ | (dsimp only; exact ⟨hd2, hoB, e5, e4, rfl⟩)), ⟨⟨rfl, rfl, rfl, rfl, rfl, rfl, trivial⟩, rfl, rfl⟩, ⟨_, (take1 (atS (atS (atS at0))) (take1 (atS (atS (atS at0))) (take1 (atS (atS (atS at0))) (take1 (atS (atS (atS at0))) (take1 (atS (atS (atS at0))) (take1 (atS at0) (take1 (atS (atS at0)) take0)))))))⟩⟩
        | false =>
          skip
          have hnin : q ∉ S.map (·.i) := by
            intro h5; simp at hth h5; obtain ⟨y, h6, h7⟩ := h5; exact hth y h6 h7
          have hf := hids.2 hnin
          rw [leave_out hf] at hd1
          dsimp only at hd1
          refine csFh (t := 109) rfl (rfl) ?_
          refine gF rfl rfl <| gF rfl rfl <| gF rfl rfl <| gF rfl rfl <| gF rfl rfl <| gF rfl rfl <| gF rfl rfl <| gF rfl rfl <| gF rfl rfl <| gF rfl rfl <| gF rfl rfl <| gF rfl rfl <| gF rfl rfl <| gF rfl rfl <| gF rfl rfl <| gF rfl rfl <| gF rfl rfl <| gF rfl rfl <| v0 (S0.pickF rfl rfl) rfl <| vE <| ?_  -- cutend
          exact ⟨(S, c1, false), (by first | exact ⟨hd1, ho, fun j _ => rfl, rfl, rfl⟩ | (dsimp only; exact ⟨hd1, ho, fun j _ => rfl, rfl, rfl⟩)), ⟨⟨rfl, rfl, rfl, rfl, rfl, rfl, trivial⟩, rfl, rfl⟩, ⟨_, (take1 (atS at0) (take1 (atS at0) (take1 (atS at0) (take1 (atS at0) (take1 (atS at0) (take1 at0 (take1 at0 take0)))))))⟩⟩
      · skip
        obtain ⟨SB, c2, u⟩ := st
        obtain ⟨hd2, hoB, hkeep, hlB, rfl⟩ := hinv
        dsimp only at hd2 hoB hkeep hlB ⊢
        obtain ⟨fa1, fc1, rfl, hfc1, hr1⟩ := hs1.valsE
        obtain ⟨fa2, fc2, rfl, hfc2, hr2⟩ := hs2.valsE
        -- (nothing to walk: cond)
        refine WP.condFh rfl (rfl) ?_
        refine WP.skip <| WP.seq <| WP.seq <| WP.region <| v0 (S0.assign rfl) rfl <| vE <| WP.block <| ?_  -- Code.loop
        refine WP.loop (fun k : Nat => k ≤ S.length) (fun k : Nat => [(1, .int .i64 q), (6, .pointer (some ⟨db, 0, none⟩)), (8, .slice ia (S.map (·.i)).length icap), (10, .slice fa1 R1.length fc1), (11, .slice fa2 R2.length fc2), (13, .int .i64 (k : Int))]) (fun k : Nat => [idr, or1, blksV R1, or2, blksV R2, c2, whole W]) (fun k : Nat => S.length - k) (0) (Nat.zero_le _) ⟨rfl, rfl, rfl, rfl, rfl, rfl, trivial⟩ ⟨_, (take1 at0 (take1 at0 (take1 at0 (take1 at0 (take1 at0 (take1 at0 (take1 at0 take0)))))))⟩ (fun k hinv => ?_) 
        refine WP.seq <| WP.seq <| WP.region <| v0 (S0.move rfl) rfl <| v0 (S0.move rfl) rfl <| v0 (S0.lenSl rfl) rfl <| v0 (S0.cmp rfl rfl rfl) rfl <| vE <| ?_  -- cond
        first | refine WP.condP rfl (fun h3 => ?_) (fun h3 => ?_) | refine WP.condN rfl (fun h3 => ?_) (fun h3 => ?_) | refine WP.cond rfl (fun h3 => ?_) (fun h3 => ?_)
        · skip
          have hlt : k < S.length := by omega
          have hy : S[k]? = some S[k] := by simp [hlt]
          have hyS := List.getElem_mem hlt
          generalize S[k] = y at hy hyS
          have hfy := find_of ho.asc hyS
          have hoy := ho.all y hyS
          have hlF := hoy.lF
          obtain ⟨-, -, hlM⟩ := sortedM_iff.1 hoy.ms
          have hiy : (S.map (·.i))[k]? = some y.i := by simp [hy]
          rcases hirow with ⟨e1, -⟩ | ⟨b1, sp1, rfl, rfl, hsp1⟩
          · have := congrArg List.length e1; simp at this; rw [this] at hlt; simp at hlt
          rcases hr1 with ⟨e1, -⟩ | ⟨b2, sp2, rfl, rfl, hsp2⟩
          · rw [e1] at hl1; rw [List.take_length] at hl1; rw [← hl1] at hlt; simp at hlt
          rcases hr2 with ⟨e1, -⟩ | ⟨b4, sp4, rfl, rfl, hsp4⟩
          · rw [e1] at hl2; rw [List.take_length] at hl2; rw [← hl2] at hlt; simp at hlt
          have hlr1 : R1.length = S.length := hR1.len
          have hlr2 : R2.length = S.length := hR2.len
          have hx1 : R1[k]? = some (R1[k]'(by omega)) := by simp
          generalize R1[k]'(by omega) = r1 at hx1
          have hx2 : R2[k]? = some (R2[k]'(by omega)) := by simp
          generalize R2[k]'(by omega) = r2 at hx2
          have hf1 := hR1.row k r1 y hx1 hy
          have hf2 := hR2.row k r2 y hx2 hy
          obtain ⟨C1, hC1⟩ := blksV_at hx1
          obtain ⟨C2, hC2⟩ := blksV_at hx2
          refine WP.perm (h' := [[(b1, .cells ⟨ints (S.map (·.i)) ++ sp1⟩ 3 (0, 0))], [(b2, .cells ⟨vals R1 ++ sp2⟩ 51 (0, 0))], r1.2, [(b4, .cells ⟨vals R2 ++ sp4⟩ 49 (0, 0))], r2.2, c2, C1, C2, whole W]) (k := []) (pm fun a_ => by have h0_ := pm_of (hC1) a_; (try simp only [List.flatten_append, List.flatten_cons, List.flatten_nil, List.append_nil, List.cons_append, List.nil_append, List.append_assoc, nOf_app, nOf_cons, nOf_nil, Nat.add_zero, Nat.zero_add, List.map_append, List.map_cons, List.map_nil, cel, sv] at h0_); have h1_ := pm_of (hC2) a_; (try simp only [List.flatten_append, List.flatten_cons, List.flatten_nil, List.append_nil, List.cons_append, List.nil_append, List.append_assoc, nOf_app, nOf_cons, nOf_nil, Nat.add_zero, Nat.zero_add, List.map_append, List.map_cons, List.map_nil, cel, sv] at h1_); (try simp only [List.flatten_append, List.flatten_cons, List.flatten_nil, List.append_nil, List.cons_append, List.nil_append, List.append_assoc, nOf_app, nOf_cons, nOf_nil, Nat.add_zero, Nat.zero_add, List.map_append, List.map_cons, List.map_nil, cel, sv]); first | done | omega) ?_
          skip
          refine WP.skip <| WP.seq <| WP.block <| WP.seq <| WP.drawP [(0, none), (1, none), (2, none), (3, none), (4, none), (5, none), (6, none), (7, none), (8, none), (9, none), (10, none), (11, none), (13, none), (14, none), (15, none), (16, none), (12, none), (17, none), (18, none), (19, none), (20, none), (21, none), (22, none), (23, none), (24, none), (26, none), (27, none), (28, none), (29, none), (25, none), (30, none), (31, none), (32, none), (33, none)] mixed (by kernel_rfl) (by kernel_rfl) (by kernel_rfl) (take1 at0 (take1 at0 (take1 at0 (take1 at0 (take1 at0 take0))))) <| w0 rfl rfl rfl (S0.move rfl) rfl <| w0 rfl rfl rfl (S0.move rfl) rfl <| ?_  -- op t137 := indexAddr 38 t135 t136
          refine w0 rfl rfl rfl (S0.index1 rfl rfl (by omega)) rfl <| ?_
          refine w0 rfl rfl rfl (S0.load rfl (ints_get hiy)) rfl <| ?_
          refine w0 rfl rfl rfl (S0.move rfl) rfl <| w0 rfl rfl rfl (S0.cmp rfl rfl rfl) rfl <| w0 rfl rfl rfl (S0.move rfl) rfl <| ?_  -- guard t141 (wants True) at t142 := move t6 [if #6=True]
          first | refine wcsP (t := 141) rfl (fun h4 => ?_) (fun h4 => ?_) | refine wcsN (t := 141) rfl (fun h4 => ?_) (fun h4 => ?_) | refine wcs (t := 141) rfl (fun h4 => ?_) (fun h4 => ?_)
          · skip
            have hgy : findD SB y.i = some y := by rw [hkeep y.i h4]; exact hfy
            have hgf : fltD SB y.i = y.F := flt_some hgy
            have hgm : mrkD SB y.i = y.M := mrk_some hgy
            refine w0 rfl rfl rfl (S0.move rfl) rfl <| w0 rfl rfl rfl (S0.move rfl) rfl <| w0 rfl rfl rfl (S0.move rfl) rfl <| ?_  -- op t145 := indexAddr 38 t143 t144 [if #6=True]
            refine w0 rfl rfl rfl (S0.index1 rfl rfl (by omega)) rfl <| ?_
            refine w0 rfl rfl rfl (S0.load rfl (ints_get hiy)) rfl <| ?_
            refine w0 rfl rfl rfl (S0.move rfl) rfl <| w0 rfl rfl rfl (S0.move rfl) rfl <| ?_  -- op t150 := indexAddr 63 t148 t149 [if #6=True]
            refine w0 rfl rfl rfl (S0.index1 rfl rfl (by omega)) rfl <| ?_
            refine w0 rfl rfl rfl (S0.load rfl (vals_get hx1)) rfl <| ?_
            refine wc rfl rfl rfl rfl (S1.callF rfl (filters_spec hd2 hoB y.i) (take1 at0 take0)) rfl ?_
            rintro fv _ ⟨frow, hfs, rfl⟩
            refine wapp ?_
            rw [hgf] at hfs
            -- (nothing to walk: op t152 := call F32{rivulet/rivuletref02.Same}(t147, t151) [if #6=True])
            refine wcS rfl rfl rfl rfl (S1.callF rfl (same_spec hfs.rdS hf1.rdS (by omega)) (take1 (atS (atS (atS (atS (atS at0))))) (take1 (atS (atS at0)) take0))) rfl (take1 (atS (atS at0)) (take1 (atS (atS at0)) (take1 (atS at0) (take1 (atS at0) (take1 (atS at0) take0))))) ?_
            refine w0 rfl rfl rfl (S0.not rfl) rfl <| w0 rfl rfl rfl (S0.move rfl) rfl <| ?_  -- guard t154 (wants False) at t155 := move t6 [if #19=False]
            refine wcsFh (t := 154) rfl ((by simp)) ?_
            refine w0 rfl rfl rfl (S0.move rfl) rfl <| w0 rfl rfl rfl (S0.move rfl) rfl <| w0 rfl rfl rfl (S0.move rfl) rfl <| ?_  -- op t158 := indexAddr 38 t156 t157 [if #19=False]
            refine w0 rfl rfl rfl (S0.index1 rfl rfl (by omega)) rfl <| ?_
            refine w0 rfl rfl rfl (S0.load rfl (ints_get hiy)) rfl <| ?_
            refine w0 rfl rfl rfl (S0.move rfl) rfl <| w0 rfl rfl rfl (S0.move rfl) rfl <| ?_  -- op t163 := indexAddr 64 t161 t162 [if #19=False]
            refine w0 rfl rfl rfl (S0.index1 rfl rfl (by omega)) rfl <| ?_
            refine w0 rfl rfl rfl (S0.load rfl (vals_get hx2)) rfl <| ?_
            refine wc rfl rfl rfl rfl (S1.callF rfl (mrks_spec hd2 hoB y.i) (take1 (atS at0) take0)) rfl ?_
            rintro mv _ ⟨mrow, hms, rfl⟩
            refine wapp ?_
            rw [hgm] at hms
            -- (nothing to walk: op t165 := call F34{rivulet/rivuletref06.Equal}(t160, t164) [if #19=False])
            refine wcS rfl rfl rfl rfl (S1.callF rfl (requal_spec hms hf2 (by omega)) (take1 (atS (atS (atS (atS (atS at0))))) (take1 (atS (atS (atS (atS at0)))) take0))) rfl (take1 (atS (atS at0)) (take1 (atS (atS at0)) (take1 (atS (atS at0)) (take1 (atS (atS at0)) (take1 (atS at0) take0))))) ?_
            refine w0 rfl rfl rfl (S0.not rfl) rfl <| w0 rfl rfl rfl (S0.pickF rfl rfl) rfl <| w0 rfl rfl rfl (S0.pickT rfl rfl) rfl <| wE <| ?_  -- cond
            refine WP.condFh rfl ((by simp)) ?_
            refine WP.skip <| WP.region <| v0 (S0.move rfl) rfl <| v0 (S0.ari rfl rfl rfl (wrap_i64 (by omega))) rfl <| v0 (S0.assign rfl) rfl <| vE <| ?_  -- roundend
            exact ⟨k + 1, (by first | exact hlt | (dsimp only; exact hlt)), (by omega), ⟨⟨rfl, rfl, rfl, rfl, rfl, rfl, trivial⟩, rfl, rfl⟩, ⟨[frow, mrow], (pm fun a_ => by have h0_ := pm_of (hC1) a_; (try simp only [List.flatten_append, List.flatten_cons, List.flatten_nil, List.append_nil, List.cons_append, List.nil_append, List.append_assoc, nOf_app, nOf_cons, nOf_nil, Nat.add_zero, Nat.zero_add, List.map_append, List.map_cons, List.map_nil, cel, sv] at h0_); have h1_ := pm_of (hC2) a_; (try simp only [List.flatten_append, List.flatten_cons, List.flatten_nil, List.append_nil, List.cons_append, List.nil_append, List.append_assoc, nOf_app, nOf_cons, nOf_nil, Nat.add_zero, Nat.zero_add, List.map_append, List.map_cons, List.map_nil, cel, sv] at h1_); (try simp only [List.flatten_append, List.flatten_cons, List.flatten_nil, List.append_nil, List.cons_append, List.nil_append, List.append_assoc, nOf_app, nOf_cons, nOf_nil, Nat.add_zero, Nat.zero_add, List.map_append, List.map_cons, List.map_nil, cel, sv]); first | done | omega)⟩⟩
          · skip
            refine wF rfl rfl rfl rfl <| wF rfl rfl rfl rfl <| wF rfl rfl rfl rfl <| wF rfl rfl rfl rfl <| wF rfl rfl rfl rfl <| wF rfl rfl rfl rfl <| wF rfl rfl rfl rfl <| wF rfl rfl rfl rfl <| wF rfl rfl rfl rfl <| wF rfl rfl rfl rfl <| wF rfl rfl rfl rfl <| wF rfl rfl rfl rfl <| wF rfl rfl rfl rfl <| wF rfl rfl rfl rfl <| wF rfl rfl rfl rfl <| wF rfl rfl rfl rfl <| wF rfl rfl rfl rfl <| wF rfl rfl rfl rfl <| wF rfl rfl rfl rfl <| wF rfl rfl rfl rfl <| wF rfl rfl rfl rfl <| wF rfl rfl rfl rfl <| wF rfl rfl rfl rfl <| wF rfl rfl rfl rfl <| wF rfl rfl rfl rfl <| wF rfl rfl rfl rfl <| w0 rfl rfl rfl (S0.pickF rfl rfl) rfl <| wE <| WP.condF rfl <| WP.skip <| WP.region <| v0 (S0.move rfl) rfl <| v0 (S0.ari rfl rfl rfl (wrap_i64 (by omega))) rfl <| v0 (S0.assign rfl) rfl <| vE <| ?_  -- roundend
            exact ⟨k + 1, (by first | exact hlt | (dsimp only; exact hlt)), (by omega), ⟨⟨rfl, rfl, rfl, rfl, rfl, rfl, trivial⟩, rfl, rfl⟩, ⟨[], (pm fun a_ => by have h0_ := pm_of (hC1) a_; (try simp only [List.flatten_append, List.flatten_cons, List.flatten_nil, List.append_nil, List.cons_append, List.nil_append, List.append_assoc, nOf_app, nOf_cons, nOf_nil, Nat.add_zero, Nat.zero_add, List.map_append, List.map_cons, List.map_nil, cel, sv] at h0_); have h1_ := pm_of (hC2) a_; (try simp only [List.flatten_append, List.flatten_cons, List.flatten_nil, List.append_nil, List.cons_append, List.nil_append, List.append_assoc, nOf_app, nOf_cons, nOf_nil, Nat.add_zero, Nat.zero_add, List.map_append, List.map_cons, List.map_nil, cel, sv] at h1_); (try simp only [List.flatten_append, List.flatten_cons, List.flatten_nil, List.append_nil, List.cons_append, List.nil_append, List.append_assoc, nOf_app, nOf_cons, nOf_nil, Nat.add_zero, Nat.zero_add, List.map_append, List.map_cons, List.map_nil, cel, sv]); first | done | omega)⟩⟩
        · skip
          refine WP.exit <| WP.seq <| WP.region <| v0 (S0.move rfl) rfl <| ?_  -- op t170 := call F33{(*rivulet/device.Devices).Ids}(t169)
          refine vc (S1.callF rfl (ids_spec hd2 hoB) (take1 (atS (atS (atS (atS (atS at0))))) take0)) rfl ?_
          rintro jv _ ⟨jdr, hjs, rfl⟩
          refine app ?_
          obtain ⟨ja, jcap, rfl, -, -⟩ := hjs.intsE
          refine v0 (S0.lenSl rfl) rfl <| v0 (S0.move rfl) rfl <| v0 (S0.lenSl rfl) rfl <| v0 (S0.cmp rfl rfl rfl) rfl <| v0 (S0.move rfl) rfl <| ?_  -- guard t175 (wants True) at t176 := call F23{rivulet/rivuletlaw19.fixed}() [if #6=True]
          refine csTh (t := 175) rfl ((by simp [hlB])) ?_
          -- (nothing to walk: op t176 := call F23{rivulet/rivuletlaw19.fixed}() [if #6=True])
          refine gT rfl <| vcd (S1.callF rfl (fixed_spec) take0) rfl ?_
          refine v0 (S0.pickT rfl rfl) rfl <| v0 (S0.assign rfl) rfl <| vE <| WP.ret <| ?_  -- ret
          refine Leaves.drop (take1 (atS (atS (atS (atS (atS (atS (atS at0))))))) take0) ?_
          refine r1 rfl rfl ?_
          exact ⟨rfl, rfl⟩
end Go.Proofs.YtanecnnfpdhadaaGreatDoor
/- Door -/
/-
  A world in which Go's two tables of utf8 are laid.
-/
namespace Go.Proofs.YtanecnnfpdhadaaGreatDoor
open Go

def u8s (l : List Nat) : Array Value := (l.map fun (n : Nat) => Value.int .u8 n).toArray
def acceptZ : List Nat := [128, 191, 160, 191, 128, 159, 144, 191, 128, 143, 0, 0, 0, 0, 0, 0, 0, 0, 0, 0, 0, 0, 0, 0, 0, 0, 0, 0, 0, 0, 0, 0]
noncomputable def laidWorld (os : Os) : World :=
  let w0 := World.holding Tryz.prog os ⟨#[], #[], []⟩
  { w0 with heap := (w0.heap.modify 1 fun
      | .cells _ t frozen => .cells (u8s acceptZ) t frozen
      | o => o).modify 0 fun
      | .cells _ t frozen => .cells (u8s Go.Pinned.utf8FirstZ) t frozen
      | o => o }
abbrev laidList : List (String × DataW Unit) := [("unicode/utf8.acceptRanges", Rows.laid_unicode_utf8_acceptRanges), ("unicode/utf8.first", Rows.laid_unicode_utf8_first)]
set_option maxRecDepth 100000 in
theorem laidWorld_met (os : Os) (args : Array Value) : laidMetH Tryz.prog laidList ((laidWorld os).forCall (fun _ _ => 0) ⟨#[], args, []⟩).memory :=
  laidMetH_of_parts (laidMet_of_run' 100 (by kernel_rfl) (by kernel_rfl)) (by kernel_rfl)
end Go.Proofs.YtanecnnfpdhadaaGreatDoor
