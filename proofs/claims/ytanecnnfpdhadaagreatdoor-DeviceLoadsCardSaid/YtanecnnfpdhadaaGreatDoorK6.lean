import Derived.Test.YtanecnnfpdhadaaGreatDoorK5
import Derived.Test.YtanecnnfpdhadaaGreatDoorK2
import Derived.Test.YtanecnnfpdhadaaGreatDoorK1
import Derived.Test.YtanecnnfpdhadaaGreatDoorRows
import Derived.ChangeVars
import Derived.JoinedOf
import Derived.LaidLaws
import Derived.LaidHandle
import Derived.SizedLaws
set_option linter.unusedSimpArgs false
set_option linter.unusedVariables false
set_option linter.unnecessarySimpa false
/- Q7 -/
namespace Go.Proofs.YtanecnnfpdhadaaGreatDoor
open Go

theorem numD_bad1 {s : Str} {a top : Nat} (h : (getV s a).2.2 ≠ 0) : numD s a top = none := if_neg fun e => h e.1
theorem numD_bad2 {s : Str} {a top : Nat} (h : (top : Int) < (getV s a).1) : numD s a top = none := if_neg fun e => by have := e.2; omega
theorem numD_good {s : Str} {a top : Nat} (h0 : (getV s a).2.2 = 0) (h : ¬ (top : Int) < (getV s a).1) : ∃ n b : Nat, (getV s a).1 = (n : Int) ∧ (getV s a).2.1 = (b : Int) ∧ n ≤ top ∧ b ≤ s.length ∧ numD s a top = some (n, b) := by
  obtain ⟨n, k, hg, hn, hk, hak, -⟩ := getV_ok h0
  refine ⟨n, a + k, by rw [hg], by rw [hg], by rw [hg] at h; simp only at h; omega, hak, ?_⟩
  unfold numD
  rw [if_pos ⟨h0, by omega⟩, hg]
  simp only [Int.toNat_natCast]
theorem rload_spec {s : Str} (hs : s.length ≤ 900000) : FN Tryz.prog 24 [sv s] [] (fun u h => (∃ S rb c, loadD s = some S ∧ DevOk S ∧ IsRD rb S c ∧ u = .tuple ⟨[.pointer (some ⟨rb, 0, none⟩), .int .i64 0]⟩ ∧ h = [c]) ∨ (loadD s = none ∧ u = .tuple ⟨[.pointer none, .int .i64 4]⟩ ∧ h = [])) := by
  have hs2 : s.length ≤ 1000000 := by omega
  refine FN.intro 123 [(0, sv s)] Tryz.func24 rfl (enters Tryz.func24 (by kernel_rfl) rfl) Tryz.ntmps24 rfl rfl ?_
  refine WP.seq <| WP.region <| v0 (S0.assign rfl) rfl <| v0 (S0.assign rfl) rfl <| vE <| WP.seq <| WP.region <| v0 (S0.build rfl (qs := []) rfl) rfl <| vn (S1.box rfl rfl) rfl fun b24 => v0 (S0.assign rfl) rfl <| vE <| WP.seq <| WP.region <| v0 (S0.move rfl) rfl <| ?_  -- op t27 := call F57{rivulet/rivuletref01.Get}(t26, 0:i64)
  have hd0 : IsRD b24 [] [(b24, cel [.slice none 0 0] 29)] := ⟨[], ⟨.slice none 0 0, [], IsSl.nil, by simp, by simp [rblks]⟩, rfl⟩
  refine vcd (S1.callF rfl (rget_spec (s := s) (a := 0) hs2 (by omega)) take0) rfl ?_
  refine v0 (S0.move rfl) rfl <| v0 (S0.extract rfl rfl) rfl <| v0 (S0.extract rfl rfl) rfl <| v0 (S0.extract rfl rfl) rfl <| v0 (S0.assign rfl) rfl <| v0 (S0.assign rfl) rfl <| v0 (S0.assign rfl) rfl <| vE <| WP.seq <| WP.seq <| WP.region <| v0 (S0.move rfl) rfl <| v0 (S0.cmp rfl rfl rfl) rfl <| v0 (S0.move rfl) rfl <| ?_  -- guard t33 (wants False) at t34 := move t5 [if #2=False]
  first | refine csP (t := 33) rfl (fun g1 => ?_) (fun g1 => ?_) | refine csN (t := 33) rfl (fun g1 => ?_) (fun g1 => ?_) | refine cs (t := 33) rfl (fun g1 => ?_) (fun g1 => ?_)
  · skip
    refine gF rfl rfl <| gF rfl rfl <| v0 (S0.pickT rfl rfl) rfl <| vE <| WP.condT rfl <| WP.seq <| WP.region <| v0 (S0.assign rfl) rfl <| v0 (S0.assign rfl) rfl <| vE <| WP.ret <| ?_  -- ret
    refine Leaves.drop take0 ?_
    refine r2 rfl rfl rfl ?_
    exact .inr ⟨by unfold loadD; rw [numD_bad1 g1], rfl, rfl⟩
  · skip
    refine gT rfl <| v0 (S0.move rfl) rfl <| gT rfl <| v0 (S0.cmp rfl rfl rfl) rfl <| v0 (S0.pickF rfl rfl) rfl <| vE <| ?_  -- cond
    first | refine WP.condP rfl (fun g2 => ?_) (fun g2 => ?_) | refine WP.condN rfl (fun g2 => ?_) (fun g2 => ?_) | refine WP.cond rfl (fun g2 => ?_) (fun g2 => ?_)
    · skip
      refine WP.seq <| WP.region <| v0 (S0.assign rfl) rfl <| v0 (S0.assign rfl) rfl <| vE <| WP.ret <| ?_  -- ret
      refine Leaves.drop take0 ?_
      refine r2 rfl rfl rfl ?_
      exact .inr ⟨by unfold loadD; rw [numD_bad2 g2], rfl, rfl⟩
    · skip
      obtain ⟨many, a1, q1, q2, hmany, ha1, hn⟩ := numD_good g1 g2
      have er : loadD s = match readsD s many [] a1 with | none => none | some S => if saveD S = s then some S else none := by unfold loadD; rw [hn]; rfl
      rw [q1, q2]
      refine WP.skip <| WP.seq <| WP.seq <| WP.region <| v0 (S0.assign rfl) rfl <| vE <| WP.block <| ?_  -- Code.loop
      refine WP.loop (fun st : Nat × DS × List Blk × Nat => st.1 ≤ many ∧ IsRD b24 st.2.1 st.2.2.1 ∧ DevOk st.2.1 ∧ st.2.2.2 ≤ s.length ∧ readsD s many [] a1 = readsD s (many - st.1) st.2.1 st.2.2.2) (fun st : Nat × DS × List Blk × Nat => [(0, sv s), (4, .pointer (some ⟨b24, 0, none⟩)), (5, .int .u64 (many : Int)), (6, .int .i64 (st.2.2.2 : Int)), (8, .int .i64 (st.1 : Int))]) (fun st : Nat × DS × List Blk × Nat => [st.2.2.1]) (fun st : Nat × DS × List Blk × Nat => many - st.1) ((0, [], [(b24, cel [.slice none 0 0] 29)], a1)) (⟨Nat.zero_le _, hd0, DevOk.nil, ha1, rfl⟩) ⟨rfl, rfl, rfl, rfl, rfl, trivial⟩ ⟨_, (take1 at0 take0)⟩ (fun st hinv => ?_) 
      obtain ⟨j, SA, cA, aA⟩ := st
      obtain ⟨hj, hdA, hoA, haA, hrA⟩ := hinv
      dsimp only at hj hdA hoA haA hrA ⊢
      refine WP.seq <| WP.seq <| WP.region <| v0 (S0.move rfl) rfl <| v0 (S0.move rfl) rfl <| v0 (S0.convI rfl (wrap_i64 (by omega))) rfl <| v0 (S0.cmp rfl rfl rfl) rfl <| vE <| ?_  -- cond
      first | refine WP.condP rfl (fun h1 => ?_) (fun h1 => ?_) | refine WP.condN rfl (fun h1 => ?_) (fun h1 => ?_) | refine WP.cond rfl (fun h1 => ?_) (fun h1 => ?_)
      · skip
        have hlt : j < many := by omega
        rw [show many - j = (many - (j + 1)) + 1 by omega, readsD] at hrA
        have bad : readD s SA aA = none → loadD s = none := fun hb => by rw [er, hrA, hb]
        refine WP.skip <| WP.seq <| WP.block <| WP.seq <| WP.region <| v0 (S0.move rfl) rfl <| v0 (S0.move rfl) rfl <| ?_  -- op t46 := call F57{rivulet/rivuletref01.Get}(t44, t45)
        refine vcd (S1.callF rfl (rget_spec (s := s) (a := aA) hs2 (by omega)) take0) rfl ?_
        refine v0 (S0.move rfl) rfl <| v0 (S0.extract rfl rfl) rfl <| v0 (S0.extract rfl rfl) rfl <| v0 (S0.extract rfl rfl) rfl <| v0 (S0.assign rfl) rfl <| v0 (S0.assign rfl) rfl <| v0 (S0.assign rfl) rfl <| vE <| WP.seq <| WP.seq <| WP.region <| v0 (S0.move rfl) rfl <| v0 (S0.cmp rfl rfl rfl) rfl <| v0 (S0.move rfl) rfl <| ?_  -- guard t52 (wants False) at t53 := move t9 [if #2=False]
        first | refine csP (t := 52) rfl (fun g3 => ?_) (fun g3 => ?_) | refine csN (t := 52) rfl (fun g3 => ?_) (fun g3 => ?_) | refine cs (t := 52) rfl (fun g3 => ?_) (fun g3 => ?_)
        · skip
          refine gF rfl rfl <| gF rfl rfl <| v0 (S0.pickT rfl rfl) rfl <| v0 (S0.move rfl) rfl <| gF rfl rfl <| gF rfl rfl <| gF rfl rfl <| gF rfl rfl <| gF rfl rfl <| v0 (S0.pickT rfl rfl) rfl <| vE <| WP.condT rfl <| WP.seq <| WP.region <| v0 (S0.assign rfl) rfl <| v0 (S0.assign rfl) rfl <| vE <| WP.ret <| ?_  -- ret
          refine Leaves.drop take0 ?_
          refine r2 rfl rfl rfl ?_
          exact .inr ⟨bad (by unfold readD; rw [numD_bad1 g3]), rfl, rfl⟩
        · skip
          refine gT rfl <| v0 (S0.move rfl) rfl <| gT rfl <| v0 (S0.cmp rfl rfl rfl) rfl <| v0 (S0.pickF rfl rfl) rfl <| v0 (S0.move rfl) rfl <| ?_  -- guard t56 (wants False) at t57 := move t4 [if #6=False]
          first | refine csP (t := 56) rfl (fun g4 => ?_) (fun g4 => ?_) | refine csN (t := 56) rfl (fun g4 => ?_) (fun g4 => ?_) | refine cs (t := 56) rfl (fun g4 => ?_) (fun g4 => ?_)
          · skip
            refine gF rfl rfl <| gF rfl rfl <| gF rfl rfl <| gF rfl rfl <| gF rfl rfl <| v0 (S0.pickT rfl rfl) rfl <| vE <| WP.condT rfl <| WP.seq <| WP.region <| v0 (S0.assign rfl) rfl <| v0 (S0.assign rfl) rfl <| vE <| WP.ret <| ?_  -- ret
            refine Leaves.drop take0 ?_
            refine r2 rfl rfl rfl ?_
            exact .inr ⟨bad (by unfold readD; rw [numD_bad2 g4]), rfl, rfl⟩
          · skip
            obtain ⟨id, a2, q3, q4, hid, ha2, hn2⟩ := numD_good g3 g4
            have er2 : readD s SA aA = if (joinD SA id).1 = 0 then filtsD s id (joinD SA id).2 a2 else none := by unfold readD; rw [hn2]
            rw [q3, q4]
            refine gT rfl <| v0 (S0.move rfl) rfl <| gT rfl <| v0 (S0.move rfl) rfl <| gT rfl <| v0 (S0.convI rfl (wrap_i64 (by omega))) rfl <| ?_  -- op t60 := call F12{(*rivulet/rivuletref19.Devices).Join}(t57, t59) [if #6=False]
            refine gT rfl <| vc (S1.callF rfl (rjoin_spec hdA hoA.len (id : Int)) (take1 at0 take0)) rfl ?_
            rintro _ _ ⟨c1, hd1, rfl, rfl⟩
            refine app ?_
            refine gT rfl <| v0 (S0.cmp rfl rfl rfl) rfl <| v0 (S0.pickF rfl rfl) rfl <| vE <| ?_  -- cond
            first | refine WP.condP rfl (fun g5 => ?_) (fun g5 => ?_) | refine WP.condN rfl (fun g5 => ?_) (fun g5 => ?_) | refine WP.cond rfl (fun g5 => ?_) (fun g5 => ?_)
            · skip
              refine WP.seq <| WP.region <| v0 (S0.assign rfl) rfl <| v0 (S0.assign rfl) rfl <| vE <| WP.ret <| ?_  -- ret
              refine Leaves.drop take0 ?_
              refine r2 rfl rfl rfl ?_
              exact .inr ⟨bad (by rw [er2, if_neg (by simpa using g5)]), rfl, rfl⟩
            · skip
              have hj0 : (joinD SA id).1 = 0 := by simpa using g5
              rw [if_pos hj0] at er2
              have hjn : findD (joinD SA id).2 id = some ⟨id, [], []⟩ := by
                unfold joinD at hj0 ⊢
                by_cases h1 : (id : Int) < 0 ∨ 1099511627776 < (id : Int)
                · rw [if_pos h1] at hj0; cases hj0
                · rw [if_neg h1] at hj0 ⊢
                  by_cases h2 : (findD SA id).isSome = true
                  · rw [if_pos h2] at hj0; cases hj0
                  · rw [if_neg h2] at hj0 ⊢
                    by_cases h3 : 16 ≤ SA.length
                    · rw [if_pos h3] at hj0; cases hj0
                    · rw [if_neg h3]
                      show findD (insD SA ⟨id, [], []⟩) id = _
                      rw [find_ins (y := ⟨id, [], []⟩) (by simpa using h2)]; simp
              have ho1 := hoA.join (id : Int)
              generalize (joinD SA id).2 = SB at er2 hjn ho1 hd1
              refine WP.skip <| WP.seq <| WP.region <| v0 (S0.move rfl) rfl <| v0 (S0.move rfl) rfl <| ?_  -- op t66 := call F57{rivulet/rivuletref01.Get}(t64, t65)
              refine vcd (S1.callF rfl (rget_spec (s := s) (a := a2) hs2 (by omega)) take0) rfl ?_
              refine v0 (S0.move rfl) rfl <| v0 (S0.extract rfl rfl) rfl <| v0 (S0.extract rfl rfl) rfl <| v0 (S0.extract rfl rfl) rfl <| v0 (S0.assign rfl) rfl <| v0 (S0.assign rfl) rfl <| v0 (S0.assign rfl) rfl <| vE <| WP.seq <| WP.seq <| WP.region <| v0 (S0.move rfl) rfl <| v0 (S0.cmp rfl rfl rfl) rfl <| v0 (S0.move rfl) rfl <| ?_  -- guard t72 (wants False) at t73 := move t12 [if #2=False]
              first | refine csP (t := 72) rfl (fun g6 => ?_) (fun g6 => ?_) | refine csN (t := 72) rfl (fun g6 => ?_) (fun g6 => ?_) | refine cs (t := 72) rfl (fun g6 => ?_) (fun g6 => ?_)
              · skip
                refine gF rfl rfl <| gF rfl rfl <| v0 (S0.pickT rfl rfl) rfl <| vE <| WP.condT rfl <| WP.seq <| WP.region <| v0 (S0.assign rfl) rfl <| v0 (S0.assign rfl) rfl <| vE <| WP.ret <| ?_  -- ret
                refine Leaves.drop take0 ?_
                refine r2 rfl rfl rfl ?_
                exact .inr ⟨bad (by rw [er2]; unfold filtsD; rw [numD_bad1 g6]), rfl, rfl⟩
              · skip
                refine gT rfl <| v0 (S0.move rfl) rfl <| gT rfl <| v0 (S0.cmp rfl rfl rfl) rfl <| v0 (S0.pickF rfl rfl) rfl <| vE <| ?_  -- cond
                first | refine WP.condP rfl (fun g7 => ?_) (fun g7 => ?_) | refine WP.condN rfl (fun g7 => ?_) (fun g7 => ?_) | refine WP.cond rfl (fun g7 => ?_) (fun g7 => ?_)
                · skip
                  refine WP.seq <| WP.region <| v0 (S0.assign rfl) rfl <| v0 (S0.assign rfl) rfl <| vE <| WP.ret <| ?_  -- ret
                  refine Leaves.drop take0 ?_
                  refine r2 rfl rfl rfl ?_
                  exact .inr ⟨bad (by rw [er2]; unfold filtsD; rw [numD_bad2 g7]), rfl, rfl⟩
                · skip
                  obtain ⟨fn, a3, q5, q6, hfn, ha3, hn3⟩ := numD_good g6 g7
                  have er3 : readD s SA aA = match asksD s id fn SB a3 with | none => none | some (S2, a3) => marksD s id S2 a3 := by rw [er2]; unfold filtsD; rw [hn3]; rfl
                  clear er2
                  rw [q5, q6]
                  refine WP.skip <| WP.seq <| WP.seq <| WP.region <| v0 (S0.assign rfl) rfl <| vE <| WP.block <| ?_  -- Code.loop
                  refine WP.loop (fun st : Nat × DS × List Blk × Nat => st.1 ≤ fn ∧ IsRD b24 st.2.1 st.2.2.1 ∧ DevOk st.2.1 ∧ st.2.2.2 ≤ s.length ∧ (∃ F, findD st.2.1 id = some ⟨id, F, []⟩) ∧ asksD s id fn SB a3 = asksD s id (fn - st.1) st.2.1 st.2.2.2) (fun st : Nat × DS × List Blk × Nat => [(0, sv s), (4, .pointer (some ⟨b24, 0, none⟩)), (5, .int .u64 (many : Int)), (8, .int .i64 (j : Int)), (9, .int .u64 (id : Int)), (12, .int .u64 (fn : Int)), (13, .int .i64 (st.2.2.2 : Int)), (15, .int .i64 (st.1 : Int))]) (fun st : Nat × DS × List Blk × Nat => [st.2.2.1]) (fun st : Nat × DS × List Blk × Nat => fn - st.1) ((0, SB, c1, a3)) (⟨Nat.zero_le _, hd1, ho1, ha3, ⟨[], hjn⟩, rfl⟩) ⟨rfl, rfl, rfl, rfl, rfl, rfl, rfl, rfl, trivial⟩ ⟨_, (take1 at0 take0)⟩ (fun st hinv => ?_) 
                  obtain ⟨l, S2, c2, a4⟩ := st
                  obtain ⟨hl, hd2, ho2, ha4, ⟨F, hF⟩, has⟩ := hinv
                  dsimp only at hl hd2 ho2 ha4 hF has ⊢
                  refine WP.seq <| WP.seq <| WP.region <| v0 (S0.move rfl) rfl <| v0 (S0.move rfl) rfl <| v0 (S0.convI rfl (wrap_i64 (by omega))) rfl <| v0 (S0.cmp rfl rfl rfl) rfl <| vE <| ?_  -- cond
                  first | refine WP.condP rfl (fun h2 => ?_) (fun h2 => ?_) | refine WP.condN rfl (fun h2 => ?_) (fun h2 => ?_) | refine WP.cond rfl (fun h2 => ?_) (fun h2 => ?_)
                  · skip
                    have hlt2 : l < fn := by omega
                    rw [show fn - l = (fn - (l + 1)) + 1 by omega, asksD] at has
                    refine WP.skip <| WP.seq <| WP.block <| WP.seq <| WP.region <| v0 (S0.move rfl) rfl <| v0 (S0.move rfl) rfl <| ?_  -- op t85 := call F58{rivulet/rivuletref01.Cut}(t83, t84)
                    refine vcd (S1.callF rfl (rcut_spec (s := s) (a := a4) hs2 (by omega)) take0) rfl ?_
                    refine v0 (S0.move rfl) rfl <| v0 (S0.extract rfl rfl) rfl <| v0 (S0.extract rfl rfl) rfl <| v0 (S0.extract rfl rfl) rfl <| v0 (S0.assign rfl) rfl <| v0 (S0.assign rfl) rfl <| v0 (S0.assign rfl) rfl <| vE <| WP.seq <| WP.seq <| WP.region <| v0 (S0.move rfl) rfl <| v0 (S0.cmp rfl rfl rfl) rfl <| v0 (S0.move rfl) rfl <| ?_  -- guard t91 (wants False) at t92 := move t4 [if #2=False]
                    first | refine csP (t := 91) rfl (fun g8 => ?_) (fun g8 => ?_) | refine csN (t := 91) rfl (fun g8 => ?_) (fun g8 => ?_) | refine cs (t := 91) rfl (fun g8 => ?_) (fun g8 => ?_)
                    · skip
                      refine gF rfl rfl <| gF rfl rfl <| gF rfl rfl <| gF rfl rfl <| gF rfl rfl <| gF rfl rfl <| v0 (S0.pickT rfl rfl) rfl <| vE <| WP.condT rfl <| WP.seq <| WP.region <| v0 (S0.assign rfl) rfl <| v0 (S0.assign rfl) rfl <| vE <| WP.ret <| ?_  -- ret
                      refine Leaves.drop take0 ?_
                      refine r2 rfl rfl rfl ?_
                      exact .inr ⟨bad (by rw [er3, has, if_neg (fun e => g8 e.1)]), rfl, rfl⟩
                    · skip
                      have g9 : (cutV s a4).2.2 = 0 := g8
                      obtain ⟨hc1, hc2, hc3⟩ := cutV_le g9
                      generalize (cutV s a4).2.1.toNat = p at hc1 hc3 has
                      rw [hc3]
                      refine gT rfl <| v0 (S0.move rfl) rfl <| gT rfl <| v0 (S0.move rfl) rfl <| gT rfl <| v0 (S0.convI rfl (wrap_i64 (by omega))) rfl <| gT rfl <| v0 (S0.move rfl) rfl <| ?_  -- op t96 := call F16{(*rivulet/rivuletref19.Devices).Ask}(t92, t94, t95, true) [if #2=False]
                      refine gT rfl <| vc (S1.callF rfl (rask_spec hd2 ho2 (id : Int) (f := (cutV s a4).1) (by omega) true) (take1 at0 take0)) rfl ?_
                      rintro _ _ ⟨c3, hd3, rfl, rfl⟩
                      refine app ?_
                      have ho3 := ho2.ask (id : Int) (cutV s a4).1 true
                      refine gT rfl <| v0 (S0.cmp rfl rfl rfl) rfl <| v0 (S0.pickF rfl rfl) rfl <| vE <| ?_  -- cond
                      first | refine WP.condP rfl (fun g10 => ?_) (fun g10 => ?_) | refine WP.condN rfl (fun g10 => ?_) (fun g10 => ?_) | refine WP.cond rfl (fun g10 => ?_) (fun g10 => ?_)
                      · skip
                        refine WP.seq <| WP.region <| v0 (S0.assign rfl) rfl <| v0 (S0.assign rfl) rfl <| vE <| WP.ret <| ?_  -- ret
                        refine Leaves.drop take0 ?_
                        refine r2 rfl rfl rfl ?_
                        exact .inr ⟨bad (by rw [er3, has, if_neg (fun e => g10 e.2)]), rfl, rfl⟩
                      · skip
                        have hb0 : (askD S2 id (cutV s a4).1 true).1 = 0 := g10
                        rw [if_pos ⟨g9, hb0⟩] at has
                        have hF2 : ∃ F, findD (askD S2 id (cutV s a4).1 true).2 id = some ⟨id, F, []⟩ := by
                          unfold askD; rw [hF]
                          exact ⟨_, by rw [find_set (by simp only; rw [hF]; simp)]; simp; rfl⟩
                        refine WP.skip <| WP.region <| v0 (S0.move rfl) rfl <| v0 (S0.assign rfl) rfl <| vE <| WP.region <| v0 (S0.move rfl) rfl <| v0 (S0.ari rfl rfl rfl (wrap_i64 (by omega))) rfl <| v0 (S0.assign rfl) rfl <| vE <| ?_  -- roundend
                        exact ⟨(l + 1, (askD S2 id (cutV s a4).1 true).2, c3, p), (by first | exact ⟨hlt2, hd3, ho3, hc1, hF2, has⟩ | (dsimp only; exact ⟨hlt2, hd3, ho3, hc1, hF2, has⟩)), (show fn - (l + 1) < fn - l by omega), ⟨⟨rfl, rfl, rfl, rfl, rfl, rfl, rfl, rfl, trivial⟩, rfl, rfl⟩, ⟨_, (take1 at0 take0)⟩⟩
                  · skip
                    have hl2 : l = fn := by omega
                    subst hl2
                    rw [Nat.sub_self, asksD] at has
                    have er4 : readD s SA aA = marksD s id S2 a4 := by rw [er3, has]
                    clear er3
                    have hfn2 : findD S2 id ≠ none := by rw [hF]; simp
                    refine WP.exit <| WP.seq <| WP.region <| v0 (S0.move rfl) rfl <| v0 (S0.move rfl) rfl <| ?_  -- op t103 := call F59{rivulet/rivuletref06.Cut}(t101, t102)
                    refine vc (S1.callF rfl (rmcut_spec (s := s) (a := a4) hs2 ha4) take0) rfl ?_
                    rintro _ _ ⟨mv, mrow, rfl, hsM, rfl⟩
                    refine app ?_
                    refine v0 (S0.move rfl) rfl <| v0 (S0.extract rfl rfl) rfl <| v0 (S0.extract rfl rfl) rfl <| v0 (S0.extract rfl rfl) rfl <| v0 (S0.assign rfl) rfl <| v0 (S0.assign rfl) rfl <| v0 (S0.assign rfl) rfl <| vE <| WP.seq <| WP.seq <| WP.region <| v0 (S0.move rfl) rfl <| v0 (S0.cmp rfl rfl rfl) rfl <| vE <| ?_  -- cond
                    first | refine WP.condP rfl (fun g11 => ?_) (fun g11 => ?_) | refine WP.condN rfl (fun g11 => ?_) (fun g11 => ?_) | refine WP.cond rfl (fun g11 => ?_) (fun g11 => ?_)
                    · skip
                      refine WP.seq <| WP.region <| v0 (S0.assign rfl) rfl <| v0 (S0.assign rfl) rfl <| vE <| WP.ret <| ?_  -- ret
                      refine Leaves.drop take0 ?_
                      refine r2 rfl rfl rfl ?_
                      exact .inr ⟨bad (by rw [er4]; unfold marksD; rw [if_neg (by simpa using g11)]), rfl, rfl⟩
                    · skip
                      have hb0 : (cutM s a4).2.2 = 0 := by simpa using g11
                      obtain ⟨hp, hsort, hp3⟩ := cutM_le ha4 hb0
                      have er5 : readD s SA aA = some (setD S2 ⟨id, F, (cutM s a4).1⟩, (cutM s a4).2.1.toNat) := by
                        rw [er4]; unfold marksD setMs; rw [if_pos hb0, hF]
                      generalize (cutM s a4).1 = L at hsM hsort er5
                      generalize (cutM s a4).2.1.toNat = p at hp hp3 er5
                      rw [hp3]
                      have hoF := ho2.all _ (find_mem hF).1
                      have ho4 := ho2.set (y := ⟨id, F, L⟩) ⟨hoF.id, hoF.sF, hoF.fF, hoF.lF, hsort⟩
                      obtain ⟨Q, hRD, hQS⟩ := hd2
                      have hQl : Q.length = S2.length := by rw [← hQS, List.length_map]
                      have hSl := ho2.len
                      refine WP.skip <| WP.seq <| WP.region <| v0 (S0.move rfl) rfl <| v0 (S0.move rfl) rfl <| v0 (S0.convI rfl (wrap_i64 (by omega))) rfl <| ?_  -- op t112 := call F35{(*rivulet/rivuletref19.Devices).Find}(t109, t111)
                      refine vcd (S1.callF rfl (find_spec hRD (id : Int) (by omega)) (take1 (atS at0) take0)) rfl ?_
                      have hfq := findQ_D Q (id : Int)
                      rw [hQS, hF, Option.map_eq_some_iff] at hfq
                      obtain ⟨x, hfx, hxy⟩ := hfq
                      have hpq : ptrQ Q (id : Int) = x.ptr := by unfold ptrQ; rw [hfx]
                      rw [hpq]
                      obtain ⟨k, hx, -⟩ := findQ_at hfx
                      obtain ⟨v, row, hsv, hok, rfl⟩ := hRD
                      have hokx := hok x (List.mem_of_getElem? hx)
                      obtain ⟨C, hc1, hc2⟩ := rblks_at 76 hx
                      have hQasc : (Q.map (·.y)).Pairwise fun x y => x.i < y.i := by rw [hQS]; exact ho2.asc
                      obtain ⟨xb, xy, fv, frow, mv0, mrow0⟩ := x
                      dsimp only at hxy
                      subst hxy
                      unfold RO.ptr
                      refine WO.perm (h' := [[(b24, cel [v] 29)], row, [(xb, .cells ⟨[.int .i64 (id : Int), fv, mv0]⟩ 76 (0, 0))], frow, C, mrow]) (k := [mrow0]) (pm fun a_ => by have h0_ := pm_of (hc1) a_; (try simp only [List.flatten_append, List.flatten_cons, List.flatten_nil, List.append_nil, List.cons_append, List.nil_append, List.append_assoc, nOf_app, nOf_cons, nOf_nil, Nat.add_zero, Nat.zero_add, List.map_append, List.map_cons, List.map_nil, cel, sv, RO.blks] at h0_); (try simp only [List.flatten_append, List.flatten_cons, List.flatten_nil, List.append_nil, List.cons_append, List.nil_append, List.append_assoc, nOf_app, nOf_cons, nOf_nil, Nat.add_zero, Nat.zero_add, List.map_append, List.map_cons, List.map_nil, cel, sv, RO.blks]); first | done | omega) ?_
                      have hcv := hsM.cv
                      refine v0 (S0.assign rfl) rfl <| vE <| WP.seq <| WP.region <| v0 (S0.move rfl) rfl <| v0 (S0.move rfl) rfl <| v0 (S0.nilCheck rfl) rfl <| v0 (S0.fieldAddr rfl) rfl <| vs (S1.store rfl rfl (by first | rfl | exact IsSl.cv (by assumption))) <| vE <| WP.region <| v0 (S0.move rfl) rfl <| v0 (S0.assign rfl) rfl <| vE <| WP.region <| v0 (S0.move rfl) rfl <| v0 (S0.ari rfl rfl rfl (wrap_i64 (by omega))) rfl <| v0 (S0.assign rfl) rfl <| vE <| ?_  -- roundend
                      have hc4 := hc2 ⟨xb, ⟨id, F, L⟩, fv, frow, mv, mrow⟩
                      have hd5 : IsRD b24 (setD S2 ⟨id, F, L⟩) ((b24, cel [v] 29) :: (row ++ rblks 76 (Q.set k ⟨xb, ⟨id, F, L⟩, fv, frow, mv, mrow⟩))) := by
                        refine ⟨Q.set k ⟨xb, ⟨id, F, L⟩, fv, frow, mv, mrow⟩, ⟨v, row, by rw [ptrs_set (u := ⟨xb, ⟨id, F, L⟩, fv, frow, mv, mrow⟩) hx rfl]; exact hsv, fun z hz => ?_, rfl⟩, ?_⟩
                        · rcases List.mem_or_eq_of_mem_set hz with hz | rfl
                          · exact hok z hz
                          · exact ⟨hokx.fs, hsM⟩
                        · rw [setQ_D hx (by rfl) hQasc, hQS]
                      exact ⟨(j + 1, setD S2 ⟨id, F, L⟩, (b24, cel [v] 29) :: (row ++ rblks 76 (Q.set k ⟨xb, ⟨id, F, L⟩, fv, frow, mv, mrow⟩)), p), (by first | exact ⟨hlt, hd5, ho4, hp, by rw [hrA, er5]⟩ | (dsimp only; exact ⟨hlt, hd5, ho4, hp, by rw [hrA, er5]⟩)), (show many - (j + 1) < many - j by omega), ⟨⟨rfl, rfl, rfl, rfl, rfl, trivial⟩, rfl, rfl⟩, ⟨[], (pm fun a_ => by have h0_ := pm_of (hc4) a_; (try simp only [List.flatten_append, List.flatten_cons, List.flatten_nil, List.append_nil, List.cons_append, List.nil_append, List.append_assoc, nOf_app, nOf_cons, nOf_nil, Nat.add_zero, Nat.zero_add, List.map_append, List.map_cons, List.map_nil, cel, sv, RO.blks] at h0_); (try simp only [List.flatten_append, List.flatten_cons, List.flatten_nil, List.append_nil, List.cons_append, List.nil_append, List.append_assoc, nOf_app, nOf_cons, nOf_nil, Nat.add_zero, Nat.zero_add, List.map_append, List.map_cons, List.map_nil, cel, sv, RO.blks]); first | done | omega)⟩⟩
      · skip
        have hj2 : j = many := by omega
        subst hj2
        rw [Nat.sub_self, readsD] at hrA
        rw [hrA] at er
        refine WP.exit <| WP.seq <| WP.seq <| WP.region <| v0 (S0.move rfl) rfl <| ?_  -- op t119 := call F56{(*rivulet/rivuletref19.Devices).Save}(t118)
        refine vcd (S1.callF rfl (rsave_spec hdA hoA) (take1 at0 take0)) rfl ?_
        refine v0 (S0.move rfl) rfl <| v0 (S0.cmpS rfl rfl rfl) rfl <| vE <| ?_  -- cond
        first | refine WP.condP rfl (fun g12 => ?_) (fun g12 => ?_) | refine WP.condN rfl (fun g12 => ?_) (fun g12 => ?_) | refine WP.cond rfl (fun g12 => ?_) (fun g12 => ?_)
        · skip
          refine WP.seq <| WP.region <| v0 (S0.assign rfl) rfl <| v0 (S0.assign rfl) rfl <| vE <| WP.ret <| ?_  -- ret
          refine Leaves.drop take0 ?_
          refine r2 rfl rfl rfl ?_
          exact .inr ⟨by rw [er]; exact if_neg (by simpa using g12), rfl, rfl⟩
        · skip
          have hsv : saveD SA = s := by simpa using g12
          refine WP.skip <| WP.seq <| WP.region <| v0 (S0.move rfl) rfl <| v0 (S0.assign rfl) rfl <| v0 (S0.assign rfl) rfl <| vE <| WP.ret <| ?_  -- ret
          refine r2 rfl rfl rfl ?_
          exact .inl ⟨SA, b24, cA, by rw [er]; exact if_pos hsv, hoA, hdA, rfl, rfl⟩
end Go.Proofs.YtanecnnfpdhadaaGreatDoor
/- IntsR -/
namespace Go.Proofs.YtanecnnfpdhadaaGreatDoor
open Go

theorem ints_spec {v1 v2 : Value} {q1 q2 : List Blk} {a b : List Int} (h1 : IsSl 3 1 v1 (ints a) q1) (h2 : IsSl 3 1 v2 (ints b) q2) (ha : a.length ≤ 1000000000) : FN Tryz.prog 17 [v1, v2] [q1, q2] (is (.bool (decide (a = b))) [q1, q2]) := by
  obtain ⟨a1, c1, rfl, hc1, hr1⟩ := h1.intsE
  obtain ⟨a2, c2, rfl, hc2, hr2⟩ := h2.intsE
  refine FN.intro 26 [(0, .slice a1 a.length c1), (1, .slice a2 b.length c2)] Tryz.func17 rfl (enters Tryz.func17 (by kernel_rfl) rfl) Tryz.ntmps17 rfl rfl ?_
  refine WP.seq <| WP.region <| v0 (S0.assign rfl) rfl <| vE <| WP.seq <| WP.seq <| WP.region <| v0 (S0.move rfl) rfl <| v0 (S0.lenSl rfl) rfl <| v0 (S0.move rfl) rfl <| v0 (S0.lenSl rfl) rfl <| v0 (S0.cmp rfl rfl rfl) rfl <| vE <| ?_  -- cond
  first | refine WP.condP rfl (fun hl => ?_) (fun hl => ?_) | refine WP.condN rfl (fun hl => ?_) (fun hl => ?_) | refine WP.cond rfl (fun hl => ?_) (fun hl => ?_)
  · skip
    refine WP.seq <| WP.region <| v0 (S0.assign rfl) rfl <| vE <| WP.ret <| ?_  -- ret
    refine r1 rfl rfl ⟨?_, rfl⟩
    have : a ≠ b := fun e => hl (by rw [e])
    simp [this]
  · skip
    refine WP.skip <| WP.seq <| WP.seq <| WP.region <| v0 (S0.assign rfl) rfl <| vE <| WP.block <| ?_  -- Code.loop
    refine WP.loop (fun i : Nat => i ≤ a.length ∧ a.take i = b.take i) (fun i : Nat => [(0, .slice a1 a.length c1), (1, .slice a2 b.length c2), (5, .int .i64 (i : Int))]) (fun i : Nat => [q1, q2]) (fun i : Nat => a.length - i) (0) (⟨by omega, rfl⟩) ⟨rfl, rfl, rfl, trivial⟩ ⟨_, (take1 at0 (take1 at0 take0))⟩ (fun i hinv => ?_) 
    obtain ⟨hi, htk⟩ := hinv
    refine WP.seq <| WP.seq <| WP.region <| v0 (S0.move rfl) rfl <| v0 (S0.move rfl) rfl <| v0 (S0.lenSl rfl) rfl <| v0 (S0.cmp rfl rfl rfl) rfl <| vE <| ?_  -- cond
    first | refine WP.condP rfl (fun h3 => ?_) (fun h3 => ?_) | refine WP.condN rfl (fun h3 => ?_) (fun h3 => ?_) | refine WP.cond rfl (fun h3 => ?_) (fun h3 => ?_)
    · skip
      have hlt : i < a.length := by omega
      have hlt2 : i < b.length := by omega
      rcases hr1 with ⟨rfl, -⟩ | ⟨b1, sp1, rfl, rfl, hsp1⟩
      · simp at hlt
      rcases hr2 with ⟨rfl, -⟩ | ⟨b2, sp2, rfl, rfl, hsp2⟩
      · simp at hlt2
      have hx : a[i]? = some a[i] := by simp [hlt]
      have hy : b[i]? = some b[i] := by simp [hlt2]
      skip
      refine WP.skip <| WP.seq <| WP.block <| WP.seq <| WP.drawP [(0, none), (1, none), (2, none), (3, none), (4, none), (5, none), (6, none), (7, none), (8, none)] mixed (by kernel_rfl) (by kernel_rfl) (by kernel_rfl) (take1 at0 (take1 at0 take0)) <| w0 rfl rfl rfl (S0.move rfl) rfl <| w0 rfl rfl rfl (S0.move rfl) rfl <| ?_  -- op t19 := indexAddr 38 t17 t18
      refine w0 rfl rfl rfl (S0.index1 rfl rfl hlt) rfl <| ?_
      refine w0 rfl rfl rfl (S0.load rfl (ints_get hx)) rfl <| ?_
      refine w0 rfl rfl rfl (S0.move rfl) rfl <| w0 rfl rfl rfl (S0.move rfl) rfl <| ?_  -- op t23 := indexAddr 38 t21 t22
      refine w0 rfl rfl rfl (S0.index1 rfl rfl hlt2) rfl <| ?_
      refine w0 rfl rfl rfl (S0.load rfl (ints_get hy)) rfl <| ?_
      refine w0 rfl rfl rfl (S0.cmp rfl rfl rfl) rfl <| wE <| ?_  -- cond
      first | refine WP.condP rfl (fun h4 => ?_) (fun h4 => ?_) | refine WP.condN rfl (fun h4 => ?_) (fun h4 => ?_) | refine WP.cond rfl (fun h4 => ?_) (fun h4 => ?_)
      · skip
        refine WP.seq <| WP.region <| v0 (S0.assign rfl) rfl <| vE <| WP.ret <| ?_  -- ret
        refine r1 rfl rfl ⟨?_, rfl⟩
        have : a ≠ b := fun e => h4 (by subst e; rfl)
        simp [this]
      · skip
        refine WP.skip <| WP.region <| v0 (S0.move rfl) rfl <| v0 (S0.ari rfl rfl rfl (wrap_i64 (by omega))) rfl <| v0 (S0.assign rfl) rfl <| vE <| ?_  -- roundend
        exact ⟨i + 1, (by first | exact ⟨hlt, by rw [List.take_add_one, List.take_add_one, hx, hy, htk]; congr 2; simpa using h4⟩ | (dsimp only; exact ⟨hlt, by rw [List.take_add_one, List.take_add_one, hx, hy, htk]; congr 2; simpa using h4⟩)), (by omega), ⟨⟨rfl, rfl, rfl, trivial⟩, rfl, rfl⟩, ⟨_, (take1 at0 (take1 at0 take0))⟩⟩
    · skip
      refine WP.exit <| WP.seq <| WP.region <| v0 (S0.assign rfl) rfl <| vE <| WP.ret <| ?_  -- ret
      refine r1 rfl rfl ⟨?_, rfl⟩
      have : a = b := by
        rw [List.take_of_length_le (by omega), List.take_of_length_le (by omega)] at htk
        exact htk
      simp [this]
end Go.Proofs.YtanecnnfpdhadaaGreatDoor
/- L1 -/
namespace Go.Proofs.YtanecnnfpdhadaaGreatDoor
open Go

/-- a call: which, who, a filter, on or off, an event -/
structure OpD where
  k : Int
  i : Int
  f : Str
  on : Bool
  e : Ev
abbrev enO (x : OpD) : List Value := [.int .i64 x.k, .int .i64 x.i, sv x.f, .bool x.on, .int .i64 x.e.o, .int .i64 x.e.s, sv x.e.t, sv x.e.l, .int .i64 x.e.e]
theorem enO_len (x : OpD) : (enO x).length = 8 + 1 := rfl
theorem enO_cv (x : OpD) : (enO x).all cellV = true := rfl
abbrev opK : List CK := [.i .i64, .i .i64, .s, .b, .i .i64, .i .i64, .s, .s, .i .i64]
theorem argOps {W : World} {v : Value} (h : ArgF W opK v) : ∃ l : List OpD, Rd 9 enO v l (whole W) := by
  obtain ⟨a, len, cap, rfl, hc, h⟩ := h
  rcases h with rfl | ⟨b, o, L, U, fz, rfl, hm, hf⟩
  · exact ⟨[], ⟨a, cap, rfl, hc, .inl rfl⟩⟩
  · obtain ⟨l, h1, -, h3⟩ := choose_elems (k := 9) (en := enO) (Q := fun _ => True) (L := L) (o := o) (len := len) fun i hi => by
      have hf := hf i hi
      obtain ⟨_, e0, n0, rfl, -⟩ := hf 0 _ rfl
      obtain ⟨_, e1, n1, rfl, -⟩ := hf 1 _ rfl
      obtain ⟨_, e2, n2, rfl, -⟩ := hf 2 _ rfl
      obtain ⟨_, e3, n3, rfl⟩ := hf 3 _ rfl
      obtain ⟨_, e4, n4, rfl, -⟩ := hf 4 _ rfl
      obtain ⟨_, e5, n5, rfl, -⟩ := hf 5 _ rfl
      obtain ⟨_, e6, n6, rfl, -⟩ := hf 6 _ rfl
      obtain ⟨_, e7, n7, rfl, -⟩ := hf 7 _ rfl
      obtain ⟨_, e8, n8, rfl, -⟩ := hf 8 _ rfl
      refine ⟨⟨n0, n1, n2, n3, ⟨n4, n5, n6, n7, n8⟩⟩, trivial, take_cells (enO ⟨n0, n1, n2, n3, ⟨n4, n5, n6, n7, n8⟩⟩) _ fun j x hj => ?_⟩
      match j, hj with
      | 0, hj => cases hj; exact e0
      | 1, hj => cases hj; exact e1
      | 2, hj => cases hj; exact e2
      | 3, hj => cases hj; exact e3
      | 4, hj => cases hj; exact e4
      | 5, hj => cases hj; exact e5
      | 6, hj => cases hj; exact e6
      | 7, hj => cases hj; exact e7
      | 8, hj => cases hj; exact e8
    subst h1
    exact ⟨l, ⟨_, cap, rfl, hc, .inr ⟨b, o, L, U, fz, rfl, whole_mem.2 hm, h3⟩⟩⟩
def cutO (x : OpD) : OpD := ⟨x.k, x.i, x.f.take 120, x.on, ⟨x.e.o, x.e.s, x.e.t.take 120, x.e.l.take 120, x.e.e⟩⟩
def cutOs (l : List OpD) : List OpD := (l.take 80).map cutO
theorem cutOs_len (l : List OpD) : (cutOs l).length ≤ 80 := by simp [cutOs]; omega
theorem cutOs_mem {l : List OpD} : ∀ x ∈ cutOs l, x.f.length ≤ 120 ∧ x.e.t.length ≤ 120 ∧ x.e.l.length ≤ 120 := fun x hx => by
  obtain ⟨y, -, rfl⟩ := List.mem_map.1 hx
  simp only [cutO, List.length_take]
  omega
theorem min120 (n : Nat) : (if (120 : Int) < (n : Int) then 120 else (n : Int)) = ((min n 120 : Nat) : Int) := by split <;> omega
theorem take_min120 (l : Str) : (l.drop 0).take (min l.length 120 - 0) = l.take 120 := by
  rw [List.drop_zero, Nat.sub_zero]
  rcases Nat.le_total l.length 120 with h | h
  · rw [Nat.min_eq_left h, List.take_length, List.take_of_length_le h]
  · rw [Nat.min_eq_right h]
theorem take_one {α : Type} {l : List α} {i : Nat} {x : α} (h : l[i]? = some x) : l.take (i + 1) = l.take i ++ [x] := by rw [List.take_add_one, h]; rfl
theorem cut_spec {v : Value} {l : List OpD} {c : List Blk} (hr : Rd 9 enO v l c) : FN Tryz.prog 9 [v] [c] (fun u h => ∃ row, IsSl 33 9 u ((cutOs l).flatMap enO) row ∧ h = [row, c]) := by
  obtain ⟨a, cap, rfl, -, hr⟩ := hr
  refine FN.intro 56 [(0, .slice a l.length cap)] Tryz.func9 rfl (enters Tryz.func9 (by kernel_rfl) rfl) Tryz.ntmps9 rfl rfl ?_
  refine WP.seq <| WP.region <| v0 (S0.assign rfl) rfl <| vE <| WP.seq <| WP.region <| vnv (S1.buildSlice rfl (qs := []) rfl rfl) rfl fun b6 => v0 (S0.assign rfl) rfl <| vE <| WP.seq <| WP.seq <| WP.region <| v0 (S0.assign rfl) rfl <| vE <| WP.block <| ?_  -- Code.loop
  refine WP.loop (fun st : Nat × Value × List Blk => st.1 ≤ l.length ∧ st.1 ≤ 80 ∧ IsSl 33 9 st.2.1 (((l.take st.1).map cutO).flatMap enO) st.2.2) (fun st : Nat × Value × List Blk => [(0, .slice a l.length cap), (3, st.2.1), (4, .int .i64 (st.1 : Int))]) (fun st : Nat × Value × List Blk => [st.2.2, c]) (fun st : Nat × Value × List Blk => l.length - st.1) ((0, _, [(b6, .cells ⟨[]⟩ 33 (0, 0))])) (⟨Nat.zero_le _, Nat.zero_le _, IsSl.row (n := 0) (c := 0) (l := []) (sp := []) rfl rfl (Nat.le_refl _)⟩) ⟨rfl, rfl, rfl, trivial⟩ ⟨_, (take1 at0 (take1 at0 take0))⟩ (fun st hinv => ?_) 
  obtain ⟨i, ov, orow⟩ := st
  obtain ⟨hi, hi2, hosl⟩ := hinv
  dsimp only at hi hi2 hosl ⊢
  refine WP.seq <| WP.seq <| WP.region <| v0 (S0.move rfl) rfl <| v0 (S0.move rfl) rfl <| v0 (S0.lenSl rfl) rfl <| v0 (S0.cmp rfl rfl rfl) rfl <| v0 (S0.move rfl) rfl <| ?_  -- guard t11 (wants True) at t12 := move t4 [if #4=True]
  first | refine csP (t := 11) rfl (fun h1 => ?_) (fun h1 => ?_) | refine csN (t := 11) rfl (fun h1 => ?_) (fun h1 => ?_) | refine cs (t := 11) rfl (fun h1 => ?_) (fun h1 => ?_)
  · skip
    have hlt : i < l.length := by omega
    rcases hr with e | ⟨b, o, GL, U, fz, rfl, hmem, hel⟩
    · rw [e] at hlt; simp at hlt
    have : HasC c b (.cells ⟨GL⟩ U fz) := ⟨hmem⟩
    have hx : l[i]? = some l[i] := by simp [hlt]
    generalize l[i] = x at hx
    obtain ⟨x0, x1, x2, x3, ⟨x4, x5, x6, x7, x8⟩⟩ := x
    have hele : (GL.drop (o + i * 9)).take 9 = [.int .i64 x0, .int .i64 x1, sv x2, .bool x3, .int .i64 x4, .int .i64 x5, sv x6, sv x7, .int .i64 x8] := hel i _ hx
    have htk := take_one hx
    refine gT rfl <| v0 (S0.move rfl) rfl <| gT rfl <| v0 (S0.cmp rfl rfl rfl) rfl <| v0 (S0.pickT rfl rfl) rfl <| vE <| ?_  -- cond
    first | refine WP.condP rfl (fun h2 => ?_) (fun h2 => ?_) | refine WP.condN rfl (fun h2 => ?_) (fun h2 => ?_) | refine WP.cond rfl (fun h2 => ?_) (fun h2 => ?_)
    · skip
      refine WP.skip <| WP.seq <| WP.block <| WP.seq <| WP.region <| v0 (S0.move rfl) rfl <| v0 (S0.move rfl) rfl <| ?_  -- op t19 := indexAddr 22 t17 t18
      refine v0 (S0.indexO (k := 9) rfl rfl hlt) rfl <| ?_
      refine v0 (S0.loadA rfl hele rfl) rfl <| ?_
      refine vn (S1.alloc) rfl fun b5 => vs (S1.storeA rfl rfl rfl) <| vE <| WP.seq <| WP.region <| v0 (S0.fieldAddr rfl) rfl <| v0 (S0.load rfl rfl) rfl <| v0 (S0.fieldAddr rfl) rfl <| v0 (S0.load rfl rfl) rfl <| v0 (S0.lenSt rfl) rfl <| v0 (S0.min2 rfl rfl rfl) rfl <| ?_  -- op t27 := slice 9 t22 none t26 none
      rw [min120]
      refine v0 (S0.sliceSt (i := 0) (j := min x2.length 120) rfl rfl rfl ⟨Nat.zero_le _, by omega⟩) rfl <| ?_
      rw [take_min120]
      refine v0 (S0.fieldAddr rfl) rfl <| vs (S1.store rfl rfl (by first | rfl | exact IsSl.cv (by assumption))) <| vE <| WP.seq <| WP.region <| v0 (S0.fieldAddr rfl) rfl <| v0 (S0.fieldAddr rfl) rfl <| v0 (S0.load rfl rfl) rfl <| v0 (S0.fieldAddr rfl) rfl <| v0 (S0.fieldAddr rfl) rfl <| v0 (S0.load rfl rfl) rfl <| v0 (S0.lenSt rfl) rfl <| v0 (S0.min2 rfl rfl rfl) rfl <| ?_  -- op t37 := slice 9 t31 none t36 none
      rw [min120]
      refine v0 (S0.sliceSt (i := 0) (j := min x6.length 120) rfl rfl rfl ⟨Nat.zero_le _, by omega⟩) rfl <| ?_
      rw [take_min120]
      refine v0 (S0.fieldAddr rfl) rfl <| v0 (S0.fieldAddr rfl) rfl <| vs (S1.store rfl rfl (by first | rfl | exact IsSl.cv (by assumption))) <| vE <| WP.seq <| WP.region <| v0 (S0.fieldAddr rfl) rfl <| v0 (S0.fieldAddr rfl) rfl <| v0 (S0.load rfl rfl) rfl <| v0 (S0.fieldAddr rfl) rfl <| v0 (S0.fieldAddr rfl) rfl <| v0 (S0.load rfl rfl) rfl <| v0 (S0.lenSt rfl) rfl <| v0 (S0.min2 rfl rfl rfl) rfl <| ?_  -- op t48 := slice 9 t42 none t47 none
      rw [min120]
      refine v0 (S0.sliceSt (i := 0) (j := min x7.length 120) rfl rfl rfl ⟨Nat.zero_le _, by omega⟩) rfl <| ?_
      rw [take_min120]
      refine v0 (S0.fieldAddr rfl) rfl <| v0 (S0.fieldAddr rfl) rfl <| vs (S1.store rfl rfl (by first | rfl | exact IsSl.cv (by assumption))) <| vE <| WP.region <| v0 (S0.move rfl) rfl <| v0 (S0.loadAL rfl) rfl <| vnv (S1.buildSlice rfl (qs := [(0, _)]) rfl rfl) rfl fun b53 => ?_  -- op t54 := append(t51, t53) :[22, 22]
      refine ve (S1.appendL rfl hosl rfl rfl (atS (atS at0)) rfl rfl (by rw [flat_len enO_len]; simp; omega)) rfl ?_
      rintro v2 _ ⟨row2, hsl2, rfl⟩
      have hsl3 : IsSl 33 9 v2 (((l.take (i + 1)).map cutO).flatMap enO) row2 := by
        rw [htk, List.map_append, List.flatMap_append]
        simpa [cutO] using hsl2
      refine v0 (S0.assign rfl) rfl <| vE <| WP.region <| v0 (S0.move rfl) rfl <| v0 (S0.ari rfl rfl rfl (wrap_i64 (by omega))) rfl <| v0 (S0.assign rfl) rfl <| vE <| ?_  -- roundend
      exact ⟨(i + 1, v2, row2), (by first | exact ⟨hlt, by omega, hsl3⟩ | (dsimp only; exact ⟨hlt, by omega, hsl3⟩)), (show l.length - (i + 1) < l.length - i by omega), ⟨⟨rfl, rfl, rfl, trivial⟩, rfl, rfl⟩, ⟨_, (take1 at0 (take1 (atS (atS at0)) take0))⟩⟩
    · skip
      refine WP.exit <| WP.seq <| WP.region <| v0 (S0.move rfl) rfl <| v0 (S0.assign rfl) rfl <| vE <| WP.ret <| ?_  -- ret
      refine r1 rfl rfl ?_
      exact ⟨orow, by rw [cutOs, ← show i = 80 by omega]; exact hosl, rfl⟩
  · skip
    refine gF rfl rfl <| gF rfl rfl <| v0 (S0.pickF rfl rfl) rfl <| vE <| WP.condF rfl <| WP.exit <| WP.seq <| WP.region <| v0 (S0.move rfl) rfl <| v0 (S0.assign rfl) rfl <| vE <| WP.ret <| ?_  -- ret
    refine r1 rfl rfl ?_
    exact ⟨orow, by rw [cutOs, List.take_of_length_le (by omega)]; rw [List.take_of_length_le (by omega)] at hosl; exact hosl, rfl⟩
end Go.Proofs.YtanecnnfpdhadaaGreatDoor
/- L2 -/
namespace Go.Proofs.YtanecnnfpdhadaaGreatDoor
open Go

theorem sameD_spec {db rb : Nat} {S : DS} {c rc : List Blk} (hd : IsDev db S c) (hr : IsRD rb S rc) (ho : DevOk S) :
    FN Tryz.prog 22 [.pointer (some ⟨db, 0, none⟩), .pointer (some ⟨rb, 0, none⟩)] [c, rc] (is (.bool true) [c, rc]) := by
  have hSl := ho.len
  have hr0 := hr
  obtain ⟨Q, ⟨v, row, hs, hok, hrc⟩, hQS⟩ := hr
  have hQl : Q.length = S.length := by rw [← hQS, List.length_map]
  obtain ⟨a, cap, rfl, hcap, hrow⟩ := hs.ptrsE
  have i1 : HasC rc rb (cel [.slice a Q.length cap] 29) := ⟨by rw [hrc]; simp⟩
  refine FN.intro 78 [(0, .pointer (some ⟨db, 0, none⟩)), (1, .pointer (some ⟨rb, 0, none⟩))] Tryz.func22 rfl (enters Tryz.func22 (by kernel_rfl) rfl) Tryz.ntmps22 rfl rfl ?_
  refine WP.seq <| WP.region <| v0 (S0.assign rfl) rfl <| vE <| WP.seq <| WP.seq <| WP.region <| v0 (S0.move rfl) rfl <| ?_  -- op t7 := call F33{(*rivulet/device.Devices).Ids}(t6)
  refine vc (S1.callF rfl (ids_spec hd ho) (take1 at0 take0)) rfl ?_
  rintro v1 _ ⟨q1, hs1, rfl⟩
  refine app ?_
  refine v0 (S0.move rfl) rfl <| ?_  -- op t9 := call F55{(*rivulet/rivuletref19.Devices).Ids}(t8)
  refine vc (S1.callF rfl (rids_spec hr0 (by omega)) (take1 (atS (atS at0)) take0)) rfl ?_
  rintro v2 _ ⟨q2, hs2, rfl⟩
  refine app ?_
  -- (nothing to walk: op t10 := call F17{rivulet/rivuletref04.Ints}(t7, t9))
  refine vcd (S1.callF rfl (ints_spec hs1 hs2 (by rw [List.length_map]; omega)) (take1 (atS (atS at0)) (take1 at0 take0))) rfl ?_
  refine v0 (S0.not rfl) rfl <| v0 (S0.move rfl) rfl <| ?_  -- guard t12 (wants False) at t13 := move t0 [if #6=False]
  refine csFh (t := 12) rfl ((by simp)) ?_
  refine gT rfl <| v0 (S0.move rfl) rfl <| ?_  -- op t14 := call F21{(*rivulet/device.Devices).Save}(t13) [if #6=False]
  refine gT rfl <| vcd (S1.callF rfl (save_spec hd ho) (take1 (atS (atS (atS at0))) take0)) rfl ?_
  refine gT rfl <| v0 (S0.move rfl) rfl <| ?_  -- op t16 := call F56{(*rivulet/rivuletref19.Devices).Save}(t15) [if #6=False]
  refine gT rfl <| vcd (S1.callF rfl (rsave_spec hr0 ho) (take1 (atS (atS (atS at0))) take0)) rfl ?_
  refine gT rfl <| v0 (S0.cmpS rfl rfl rfl) rfl <| v0 (S0.pickF rfl rfl) rfl <| vE <| ?_  -- cond
  refine WP.condFh rfl ((by simp)) ?_
  refine WP.skip <| WP.seq <| WP.seq <| WP.region <| v0 (S0.assign rfl) rfl <| vE <| WP.block <| ?_  -- Code.loop
  refine WP.loop (fun k : Nat => k ≤ Q.length) (fun k : Nat => [(0, .pointer (some ⟨db, 0, none⟩)), (1, .pointer (some ⟨rb, 0, none⟩)), (5, .int .i64 (k : Int))]) (fun k : Nat => [c, rc]) (fun k : Nat => Q.length - k) (0) (Nat.zero_le _) ⟨rfl, rfl, rfl, trivial⟩ ⟨_, (take1 (atS at0) (take1 at0 take0))⟩ (fun k hinv => ?_) 
  refine WP.seq <| WP.seq <| WP.region <| v0 (S0.move rfl) rfl <| v0 (S0.move rfl) rfl <| v0 (S0.nilCheck rfl) rfl <| v0 (S0.fieldAddr rfl) rfl <| v0 (S0.load rfl rfl) rfl <| v0 (S0.lenSl rfl) rfl <| v0 (S0.cmp rfl rfl rfl) rfl <| vE <| ?_  -- cond
  first | refine WP.condP rfl (fun h1 => ?_) (fun h1 => ?_) | refine WP.condN rfl (fun h1 => ?_) (fun h1 => ?_) | refine WP.cond rfl (fun h1 => ?_) (fun h1 => ?_)
  · skip
    have hlt : k < Q.length := by omega
    have hx : Q[k]? = some Q[k] := by simp [hlt]
    generalize Q[k] = x at hx
    have hyS : x.y ∈ S := by rw [← hQS]; exact List.mem_map.2 ⟨x, List.mem_of_getElem? hx, rfl⟩
    have hoy := ho.all _ hyS
    have hfy := find_of ho.asc hyS
    obtain ⟨hfs, hms⟩ := hok x (List.mem_of_getElem? hx)
    obtain ⟨C, hc1, -⟩ := rblks_at 76 hx
    obtain ⟨xb, y, fv, frow, mv, mrow⟩ := x
    dsimp only at hfs hms hoy hfy hyS
    have hgf : fltD S y.i = y.F := by unfold fltD; rw [hfy]
    have hgm : mrkD S y.i = y.M := by unfold mrkD; rw [hfy]
    have hlF := hoy.lF
    obtain ⟨-, -, hlM⟩ := sortedM_iff.1 hoy.ms
    have hpx : (ptrs Q)[k]? = some (.pointer (some ⟨xb, 0, none⟩)) := by simp [hx, RO.ptr]
    rcases hrow with ⟨e1, -⟩ | ⟨b1, sp1, rfl, rfl, hsp1⟩
    · rw [e1] at hlt; simp at hlt
    have hgx : (ptrs Q ++ sp1)[k]? = some (.pointer (some ⟨xb, 0, none⟩)) := by
      rw [List.getElem?_append_left (by rw [ptrs_len]; omega)]; exact hpx
    refine WP.perm (h' := [c, [(rb, cel [.slice (some ⟨b1, 0, none⟩) Q.length cap] 29)], [(b1, .cells ⟨ptrs Q ++ sp1⟩ 73 (0, 0))], [(xb, .cells ⟨[.int .i64 y.i, fv, mv]⟩ 76 (0, 0))], frow, mrow, C]) (k := []) (by rw [hrc]; exact (pm fun a_ => by have h0_ := pm_of (hc1) a_; (try simp only [List.flatten_append, List.flatten_cons, List.flatten_nil, List.append_nil, List.cons_append, List.nil_append, List.append_assoc, nOf_app, nOf_cons, nOf_nil, Nat.add_zero, Nat.zero_add, List.map_append, List.map_cons, List.map_nil, cel, sv, RO.blks] at h0_); (try simp only [List.flatten_append, List.flatten_cons, List.flatten_nil, List.append_nil, List.cons_append, List.nil_append, List.append_assoc, nOf_app, nOf_cons, nOf_nil, Nat.add_zero, Nat.zero_add, List.map_append, List.map_cons, List.map_nil, cel, sv, RO.blks]); first | done | omega)) ?_
    skip
    refine WP.skip <| WP.seq <| WP.block <| WP.seq <| WP.drawP [(0, none), (1, none), (2, none), (3, none), (4, none), (5, none), (6, none), (7, none), (8, none), (9, none), (10, none), (12, none), (13, none), (14, none), (15, none), (16, none), (17, none), (18, none), (19, none), (20, none), (21, none), (11, none), (22, none), (23, none), (24, none), (25, none), (26, none), (27, none), (28, none), (29, none), (30, none), (31, none), (32, none), (33, none), (34, none), (35, none), (37, none), (38, none), (39, none), (40, none), (41, none), (42, none), (43, none), (44, none), (45, none), (46, none), (36, none), (47, none), (48, none), (49, none)] mixed (by kernel_rfl) (by kernel_rfl) (by kernel_rfl) (take1 (atS at0) (take1 (atS at0) (take1 (atS at0) (take1 (atS at0) (take1 (atS at0) take0))))) <| w0 rfl rfl rfl (S0.move rfl) rfl <| w0 rfl rfl rfl (S0.move rfl) rfl <| w0 rfl rfl rfl (S0.nilCheck rfl) rfl <| w0 rfl rfl rfl (S0.fieldAddr rfl) rfl <| w0 rfl rfl rfl (S0.load rfl rfl) rfl <| w0 rfl rfl rfl (S0.move rfl) rfl <| ?_  -- op t34 := indexAddr 27 t32 t33
    refine w0 rfl rfl rfl (S0.index1 rfl rfl hlt) rfl <| ?_
    refine w0 rfl rfl rfl (S0.load rfl hgx) rfl <| ?_
    refine w0 rfl rfl rfl (S0.nilCheck rfl) rfl <| w0 rfl rfl rfl (S0.fieldAddr rfl) rfl <| w0 rfl rfl rfl (S0.load rfl rfl) rfl <| w0 rfl rfl rfl (S0.move rfl) rfl <| w0 rfl rfl rfl (S0.nilCheck rfl) rfl <| w0 rfl rfl rfl (S0.fieldAddr rfl) rfl <| w0 rfl rfl rfl (S0.load rfl rfl) rfl <| w0 rfl rfl rfl (S0.move rfl) rfl <| ?_  -- op t45 := indexAddr 27 t43 t44
    refine w0 rfl rfl rfl (S0.index1 rfl rfl hlt) rfl <| ?_
    refine w0 rfl rfl rfl (S0.load rfl hgx) rfl <| ?_
    refine w0 rfl rfl rfl (S0.nilCheck rfl) rfl <| w0 rfl rfl rfl (S0.fieldAddr rfl) rfl <| w0 rfl rfl rfl (S0.load rfl rfl) rfl <| ?_  -- op t39 := call F26{(*rivulet/device.Devices).Filters}(t28, t38)
    refine wc rfl rfl rfl rfl (S1.callF rfl (filters_spec hd ho y.i) (take1 at0 take0)) rfl ?_
    rintro v3 _ ⟨q3, hs3, rfl⟩
    refine wapp ?_
    rw [hgf] at hs3
    -- (nothing to walk: op t50 := call F32{rivulet/rivuletref02.Same}(t39, t49))
    refine wcS rfl rfl rfl rfl (S1.callF rfl (same_spec hs3.rdS hfs.rdS (by omega)) (take1 (atS (atS (atS (atS (atS at0))))) (take1 (atS (atS (atS at0))) take0))) rfl (take1 (atS (atS at0)) (take1 (atS (atS at0)) (take1 (atS (atS at0)) (take1 (atS at0) (take1 (atS at0) take0))))) ?_
    refine w0 rfl rfl rfl (S0.not rfl) rfl <| w0 rfl rfl rfl (S0.move rfl) rfl <| ?_  -- guard t52 (wants False) at t53 := move t0 [if #24=False]
    refine wcsFh (t := 52) rfl ((by simp)) ?_
    refine w0 rfl rfl rfl (S0.move rfl) rfl <| w0 rfl rfl rfl (S0.move rfl) rfl <| w0 rfl rfl rfl (S0.nilCheck rfl) rfl <| w0 rfl rfl rfl (S0.fieldAddr rfl) rfl <| w0 rfl rfl rfl (S0.load rfl rfl) rfl <| w0 rfl rfl rfl (S0.move rfl) rfl <| ?_  -- op t59 := indexAddr 27 t57 t58 [if #24=False]
    refine w0 rfl rfl rfl (S0.index1 rfl rfl hlt) rfl <| ?_
    refine w0 rfl rfl rfl (S0.load rfl hgx) rfl <| ?_
    refine w0 rfl rfl rfl (S0.nilCheck rfl) rfl <| w0 rfl rfl rfl (S0.fieldAddr rfl) rfl <| w0 rfl rfl rfl (S0.load rfl rfl) rfl <| w0 rfl rfl rfl (S0.move rfl) rfl <| w0 rfl rfl rfl (S0.nilCheck rfl) rfl <| w0 rfl rfl rfl (S0.fieldAddr rfl) rfl <| w0 rfl rfl rfl (S0.load rfl rfl) rfl <| w0 rfl rfl rfl (S0.move rfl) rfl <| ?_  -- op t70 := indexAddr 27 t68 t69 [if #24=False]
    refine w0 rfl rfl rfl (S0.index1 rfl rfl hlt) rfl <| ?_
    refine w0 rfl rfl rfl (S0.load rfl hgx) rfl <| ?_
    refine w0 rfl rfl rfl (S0.nilCheck rfl) rfl <| w0 rfl rfl rfl (S0.fieldAddr rfl) rfl <| w0 rfl rfl rfl (S0.load rfl rfl) rfl <| ?_  -- op t64 := call F25{(*rivulet/device.Devices).Marks}(t53, t63) [if #24=False]
    refine wc rfl rfl rfl rfl (S1.callF rfl (mrks_spec hd ho y.i) (take1 (atS at0) take0)) rfl ?_
    rintro v4 _ ⟨q4, hs4, rfl⟩
    refine wapp ?_
    rw [hgm] at hs4
    -- (nothing to walk: op t75 := call F34{rivulet/rivuletref06.Equal}(t64, t74) [if #24=False])
    refine wcS rfl rfl rfl rfl (S1.callF rfl (requal_spec hs4 hms (by omega)) (take1 (atS (atS (atS (atS (atS at0))))) (take1 (atS (atS (atS (atS at0)))) take0))) rfl (take1 (atS (atS at0)) (take1 (atS (atS at0)) (take1 (atS (atS at0)) (take1 (atS (atS at0)) (take1 (atS at0) take0))))) ?_
    refine w0 rfl rfl rfl (S0.not rfl) rfl <| w0 rfl rfl rfl (S0.pickF rfl rfl) rfl <| wE <| ?_  -- cond
    refine WP.condFh rfl ((by simp)) ?_
    refine WP.skip <| WP.region <| v0 (S0.move rfl) rfl <| v0 (S0.ari rfl rfl rfl (wrap_i64 (by omega))) rfl <| v0 (S0.assign rfl) rfl <| vE <| ?_  -- roundend
    exact ⟨k + 1, (by first | exact hlt | (dsimp only; exact hlt)), (by omega), ⟨⟨rfl, rfl, rfl, trivial⟩, rfl, rfl⟩, ⟨[q3, q4], by rw [hrc]; exact (pm fun a_ => by have h0_ := pm_of (hc1) a_; (try simp only [List.flatten_append, List.flatten_cons, List.flatten_nil, List.append_nil, List.cons_append, List.nil_append, List.append_assoc, nOf_app, nOf_cons, nOf_nil, Nat.add_zero, Nat.zero_add, List.map_append, List.map_cons, List.map_nil, cel, sv, RO.blks] at h0_); (try simp only [List.flatten_append, List.flatten_cons, List.flatten_nil, List.append_nil, List.cons_append, List.nil_append, List.append_assoc, nOf_app, nOf_cons, nOf_nil, Nat.add_zero, Nat.zero_add, List.map_append, List.map_cons, List.map_nil, cel, sv, RO.blks]); first | done | omega)⟩⟩
  · skip
    refine WP.exit <| WP.seq <| WP.region <| v0 (S0.assign rfl) rfl <| vE <| WP.ret <| ?_  -- ret
    refine r1 rfl rfl ⟨?_, rfl⟩
    rfl
end Go.Proofs.YtanecnnfpdhadaaGreatDoor
/- L3 -/
namespace Go.Proofs.YtanecnnfpdhadaaGreatDoor
open Go

theorem joinc {db : Nat} {S S' : DS} {c : List Blk} {i E : Int} (h : IsDev db S c) (ho : DevOk S) (e : joinD S i = (E, S')) :
    FN Tryz.prog 11 [.pointer (some ⟨db, 0, none⟩), .int .i64 i] [c] (fun u h => ∃ c', IsDev db S' c' ∧ u = .int .i64 E ∧ h = [c']) := by
  have := join_spec h ho i
  rw [e] at this; exact this
theorem leavec {db : Nat} {S S' : DS} {c : List Blk} {i E : Int} (h : IsDev db S c) (e : leaveD S i = (E, S')) :
    FN Tryz.prog 13 [.pointer (some ⟨db, 0, none⟩), .int .i64 i] [c] (fun u h => ∃ c', IsDev db S' c' ∧ u = .int .i64 E ∧ h = [c']) := by
  have := leave_spec h i
  rw [e] at this; exact this
theorem askc {db : Nat} {S S' : DS} {c : List Blk} {i E : Int} {f : Str} {on : Bool} (h : IsDev db S c) (ho : DevOk S) (hf : f.length ≤ 1000000) (e : askD S i f on = (E, S')) :
    FN Tryz.prog 15 [.pointer (some ⟨db, 0, none⟩), .int .i64 i, sv f, .bool on] [c] (fun u h => ∃ c', IsDev db S' c' ∧ u = .int .i64 E ∧ h = [c']) := by
  have := ask_spec h ho i hf on
  rw [e] at this; exact this
theorem offerc {db : Nat} {S S' : DS} {c : List Blk} {x : Ev} {l : List Int} (h : IsDev db S c) (ho : DevOk S) (ht : x.t.length ≤ 120) (e : offerD S x = (l, S')) :
    FN Tryz.prog 18 [.pointer (some ⟨db, 0, none⟩), .agg ⟨evB x⟩] [c] (fun u h => ∃ c' row, IsDev db S' c' ∧ IsSl 3 1 u (ints l) row ∧ h = [row, c']) := by
  have := offer_spec h ho ht
  rw [e] at this; exact this
theorem savec {db : Nat} {S : DS} {c : List Blk} {s : Str} (h : IsDev db S c) (ho : DevOk S) (e : saveD S = s) :
    FN Tryz.prog 21 [.pointer (some ⟨db, 0, none⟩)] [c] (is (sv s) [c]) := by
  have := save_spec h ho
  rw [e] at this; exact this
theorem loadc {S : DS} {s : Str} (hs : s.length ≤ 1000000) (e : loadD s = some S) :
    FN Tryz.prog 20 [sv s] [] (fun u h => ∃ db c j, DevOk S ∧ IsDev db S c ∧ u = .tuple ⟨[.pointer (some ⟨db, 0, none⟩), .int .i64 0]⟩ ∧ h = [c, j]) :=
  (load_spec hs).mono fun u h hq => by
    rcases hq with ⟨S', db, c, j, h1, h2, h3, h4, h5⟩ | ⟨j, h1, -, -⟩
    · rw [e] at h1; cases h1; exact ⟨db, c, j, h2, h3, h4, h5⟩
    · rw [e] at h1; cases h1
theorem loadn {s : Str} (hs : s.length ≤ 1000000) (e : loadD s = none) :
    FN Tryz.prog 20 [sv s] [] (fun u h => ∃ j, u = .tuple ⟨[.pointer none, .int .i64 4]⟩ ∧ h = [j]) :=
  (load_spec hs).mono fun u h hq => by
    rcases hq with ⟨S', db, c, j, h1, h2, h3, h4, h5⟩ | ⟨j, h1, h2, h3⟩
    · rw [e] at h1; cases h1
    · exact ⟨j, h2, h3⟩
theorem row_int {b n : Nat} {l : List Int} (h : l.length = n) : IsSl 3 1 (.slice (some ⟨b, 0, none⟩) n n) (ints l) [(b, .cells ⟨ints l⟩ 3 (0, 0))] := by
  have := (IsSl.row (E := 3) (k := 1) (b := b) (n := n) (c := n) (l := ints l) (sp := []) (by simp [ints, h]) (by simp [ints, h]) (Nat.le_refl _))
  rwa [List.append_nil] at this
theorem row_str {b n : Nat} {l : List Str} (h : l.length = n) : RdS (.slice (some ⟨b, 0, none⟩) n n) l [(b, .cells ⟨strs l⟩ 9 (0, 0))] := by
  have := IsSl.rdS (E := 9) (R := l) (IsSl.row (E := 9) (k := 1) (b := b) (n := n) (c := n) (l := strs l) (sp := []) (by simp [strs, h]) (by simp [strs, h]) (Nat.le_refl _))
  rwa [List.append_nil] at this
theorem row_mk {b : Nat} (m : MkT) : IsSl 54 2 (.slice (some ⟨b, 0, none⟩) 1 1) ([m].flatMap enM) [(b, .cells ⟨[.int .i64 m.1, .int .i64 m.2]⟩ 54 (0, 0))] :=
  IsSl.row (E := 54) (k := 2) (b := b) (n := 1) (c := 1) (l := [m].flatMap enM) (sp := []) rfl rfl (Nat.le_refl _)
abbrev x1 : DS := [⟨1, [], []⟩]
abbrev x2 : DS := [⟨1, [[97, 47, 43]], []⟩]
abbrev x3 : DS := [⟨1, [[97, 47, 43]], [(3, 5)]⟩]
abbrev e1 : Ev := ⟨3, 5, [97, 47, 98], [], 1⟩
abbrev e2 : Ev := ⟨3, 6, [97, 47, 98], [], 0⟩
abbrev s3 : Str := [1, 1, 1, 3, 97, 47, 43, 1, 3, 5]
theorem j1 : joinD [] 1 = (0, x1) := by kernel_rfl
theorem j2 : joinD x1 1 = (9, x1) := by kernel_rfl
theorem j3 : joinD x1 (-1) = (1, x1) := by kernel_rfl
theorem a1 : askD x1 1 [97, 47, 43] true = (0, x2) := by kernel_rfl
theorem a2 : askD x2 1 [97, 47, 43] true = (9, x2) := by kernel_rfl
theorem a3 : askD x2 2 [97] true = (8, x2) := by kernel_rfl
theorem a4 : askD x2 1 [97] false = (8, x2) := by kernel_rfl
theorem a5 : askD x2 1 [47, 47] true = (1, x2) := by kernel_rfl
theorem o1 : offerD x2 e1 = ([1], x3) := by kernel_rfl
theorem o2 : offerD x3 e1 = ([], x3) := by kernel_rfl
theorem o3 : offerD x3 e2 = ([], x3) := by kernel_rfl
theorem w3 : saveD x3 = s3 := by kernel_rfl
theorem l3 : loadD s3 = some x3 := by kernel_rfl
theorem l4 : loadD (s3 ++ [120]) = none := by kernel_rfl
theorem v1' : leaveD x3 1 = (0, []) := by kernel_rfl
theorem ok1 : DevOk x1 := by have := DevOk.nil.join 1; rw [j1] at this; exact this
theorem ok2 : DevOk x2 := by have := ok1.ask 1 [97, 47, 43] true; rw [a1] at this; exact this
theorem ok3 : DevOk x3 := by have := ok2.offer e1; rw [o1] at this; exact this
set_option maxRecDepth 100000 in
theorem fixed_spec : FN Tryz.prog 23 [] [] (is (.bool true) []) := by
  refine FN.intro 160 [] Tryz.func23 rfl (enters Tryz.func23 (by kernel_rfl) rfl) Tryz.ntmps23 rfl rfl ?_
  refine WP.seq <| WP.region <| v0 (S0.assign rfl) rfl <| vE <| WP.seq <| WP.region <| ?_  -- op t20 := call F10{rivulet/device.New}()
  refine vc (S1.callF rfl (new_spec) take0) rfl ?_
  rintro _ _ ⟨db, c0, rfl, h0, rfl⟩
  refine app ?_
  refine v0 (S0.assign rfl) rfl <| vE <| WP.seq <| WP.seq <| WP.region <| v0 (S0.move rfl) rfl <| v0 (S0.nilP rfl rfl rfl rfl) rfl <| vE <| ?_  -- cond
  refine WP.condFh rfl (rfl) ?_
  refine WP.skip <| WP.seq <| WP.region <| v0 (S0.build rfl (qs := [(0, _), (1, _), (2, _), (4, _)]) rfl) rfl <| vn (S1.alloc) rfl fun b2 => vs (S1.storeA rfl rfl rfl) <| vE <| WP.seq <| WP.region <| v0 (S0.move rfl) rfl <| ?_  -- op t25 := call F11{(*rivulet/device.Devices).Join}(t24, 1:i64)
  refine vc (S1.callF rfl (joinc h0 DevOk.nil j1) (take1 (atS at0) take0)) rfl ?_
  rintro _ _ ⟨c1, h1, rfl, rfl⟩
  refine app ?_
  refine v0 (S0.move rfl) rfl <| ?_  -- op t27 := call F11{(*rivulet/device.Devices).Join}(t26, 1:i64)
  refine vc (S1.callF rfl (joinc h1 ok1 j2) (take1 at0 take0)) rfl ?_
  rintro _ _ ⟨c2, h2, rfl, rfl⟩
  refine app ?_
  refine v0 (S0.move rfl) rfl <| ?_  -- op t29 := call F11{(*rivulet/device.Devices).Join}(t28, -1:i64)
  refine vc (S1.callF rfl (joinc h2 ok1 j3) (take1 at0 take0)) rfl ?_
  rintro _ _ ⟨c3, h3, rfl, rfl⟩
  refine app ?_
  refine v0 (S0.assign rfl) rfl <| v0 (S0.assign rfl) rfl <| v0 (S0.assign rfl) rfl <| vE <| WP.seq <| WP.region <| v0 (S0.move rfl) rfl <| ?_  -- op t31 := call F15{(*rivulet/device.Devices).Ask}(t30, 1:i64, Value.string {'data': [97, 47, 43]}, true)
  refine vc (S1.callF rfl (askc h3 ok1 (by decide) a1) (take1 at0 take0)) rfl ?_
  rintro _ _ ⟨c4, h4, rfl, rfl⟩
  refine app ?_
  refine v0 (S0.move rfl) rfl <| ?_  -- op t33 := call F15{(*rivulet/device.Devices).Ask}(t32, 1:i64, Value.string {'data': [97, 47, 43]}, true)
  refine vc (S1.callF rfl (askc h4 ok2 (by decide) a2) (take1 at0 take0)) rfl ?_
  rintro _ _ ⟨c5, h5, rfl, rfl⟩
  refine app ?_
  refine v0 (S0.move rfl) rfl <| ?_  -- op t35 := call F15{(*rivulet/device.Devices).Ask}(t34, 2:i64, Value.string {'data': [97]}, true)
  refine vc (S1.callF rfl (askc h5 ok2 (by decide) a3) (take1 at0 take0)) rfl ?_
  rintro _ _ ⟨c6, h6, rfl, rfl⟩
  refine app ?_
  refine v0 (S0.assign rfl) rfl <| v0 (S0.assign rfl) rfl <| v0 (S0.assign rfl) rfl <| vE <| WP.seq <| WP.region <| v0 (S0.move rfl) rfl <| ?_  -- op t37 := call F15{(*rivulet/device.Devices).Ask}(t36, 1:i64, Value.string {'data': [97]}, false)
  refine vc (S1.callF rfl (askc h6 ok2 (by decide) a4) (take1 at0 take0)) rfl ?_
  rintro _ _ ⟨c7, h7, rfl, rfl⟩
  refine app ?_
  refine v0 (S0.move rfl) rfl <| ?_  -- op t39 := call F15{(*rivulet/device.Devices).Ask}(t38, 1:i64, Value.string {'data': [47, 47]}, true)
  refine vc (S1.callF rfl (askc h7 ok2 (by decide) a5) (take1 at0 take0)) rfl ?_
  rintro _ _ ⟨c8, h8, rfl, rfl⟩
  refine app ?_
  skip
  refine v0 (S0.assign rfl) rfl <| v0 (S0.assign rfl) rfl <| vE <| WP.seq <| WP.drawP [(0, none), (1, none), (3, none), (4, none), (2, none), (5, none), (6, none), (7, none)] mixed (by kernel_rfl) (by kernel_rfl) (by kernel_rfl) (take1 (atS at0) take0) <| w0 rfl rfl rfl (S0.move rfl) rfl <| w0 rfl rfl rfl (S0.loadAL rfl) rfl <| w0 rfl rfl rfl (S0.move rfl) rfl <| w0 rfl rfl rfl (S0.loadAL rfl) rfl <| ?_  -- op t42 := call F18{(*rivulet/device.Devices).Offer}(t40, t41)
  refine wc rfl rfl rfl rfl (S1.callF rfl (offerc (x := e1) h8 ok2 (by decide) o1) (take1 at0 take0)) rfl ?_
  rintro xv _ ⟨c9, q1, h9, hs1, rfl⟩
  refine wapp ?_
  -- (nothing to walk: op t45 := call F18{(*rivulet/device.Devices).Offer}(t43, t44))
  refine wc rfl rfl rfl rfl (S1.callF rfl (offerc (x := e1) h9 ok3 (by decide) o2) (take1 (atS at0) take0)) rfl ?_
  rintro yv _ ⟨c10, q2, h10, hs2, rfl⟩
  refine wapp ?_
  obtain ⟨ya, yc, rfl, -, -⟩ := hs2.intsE
  refine w0 rfl rfl rfl (S0.assign rfl) rfl <| w0 rfl rfl rfl (S0.assign rfl) rfl <| wE <| WP.seq <| WP.region <| v0 (S0.fieldAddr rfl) rfl <| vs (S1.store rfl rfl (by first | rfl | exact IsSl.cv (by assumption))) <| vE <| WP.seq <| WP.region <| v0 (S0.fieldAddr rfl) rfl <| vs (S1.store rfl rfl (by first | rfl | exact IsSl.cv (by assumption))) <| vE <| WP.seq <| WP.region <| v0 (S0.move rfl) rfl <| v0 (S0.loadAL rfl) rfl <| ?_  -- op t50 := call F18{(*rivulet/device.Devices).Offer}(t48, t49)
  refine vc (S1.callF rfl (offerc (x := e2) h10 ok3 (by decide) o3) (take1 (atS (atS at0)) take0)) rfl ?_
  rintro zv _ ⟨c11, q3, h11, hs3, rfl⟩
  refine app ?_
  obtain ⟨za, zc, rfl, -, -⟩ := hs3.intsE
  refine v0 (S0.assign rfl) rfl <| vE <| WP.seq <| WP.region <| v0 (S0.move rfl) rfl <| ?_  -- op t52 := call F21{(*rivulet/device.Devices).Save}(t51)
  refine vcd (S1.callF rfl (savec h11 ok3 w3) (take1 (atS at0) take0)) rfl ?_
  refine v0 (S0.assign rfl) rfl <| vE <| WP.seq <| WP.region <| v0 (S0.move rfl) rfl <| ?_  -- op t55 := call F20{rivulet/device.Load}(t54)
  refine vc (S1.callF rfl (loadc (by decide) l3) take0) rfl ?_
  rintro _ _ ⟨odb, co, jo, -, ho, rfl, rfl⟩
  refine app ?_
  refine v0 (S0.move rfl) rfl <| v0 (S0.extract rfl rfl) rfl <| v0 (S0.extract rfl rfl) rfl <| v0 (S0.assign rfl) rfl <| v0 (S0.assign rfl) rfl <| vE <| WP.seq <| WP.region <| v0 (S0.move rfl) rfl <| ?_  -- op t60 := add t59 Value.string {'data': [120]} :9
  refine v0 (S0.addS rfl rfl (by decide)) rfl <| ?_
  refine vc (S1.callF rfl (loadn (by decide) l4) take0) rfl ?_
  rintro _ _ ⟨j4, rfl, rfl⟩
  refine app ?_
  refine v0 (S0.move rfl) rfl <| v0 (S0.extract rfl rfl) rfl <| v0 (S0.extract rfl rfl) rfl <| v0 (S0.assign rfl) rfl <| v0 (S0.assign rfl) rfl <| vE <| WP.seq <| WP.region <| v0 (S0.move rfl) rfl <| ?_  -- op t65 := call F13{(*rivulet/device.Devices).Leave}(t64, 1:i64)
  refine vc (S1.callF rfl (leavec h11 v1') (take1 (atS (atS (atS at0))) take0)) rfl ?_
  rintro _ _ ⟨c12, h12, rfl, rfl⟩
  refine app ?_
  refine v0 (S0.assign rfl) rfl <| vE <| WP.seq <| WP.seq <| WP.region <| v0 (S0.move rfl) rfl <| v0 (S0.nilP rfl rfl rfl rfl) rfl <| vE <| ?_  -- cond
  refine WP.condFh rfl (rfl) ?_
  refine WP.skip <| WP.seq <| WP.region <| v0 (S0.move rfl) rfl <| v0 (S0.cmp rfl rfl rfl) rfl <| v0 (S0.move rfl) rfl <| ?_  -- guard t70 (wants True) at t71 := move t4 [if #2=True]
  refine csTh (t := 70) rfl (rfl) ?_
  refine gT rfl <| v0 (S0.move rfl) rfl <| gT rfl <| v0 (S0.cmp rfl rfl rfl) rfl <| v0 (S0.pickT rfl rfl) rfl <| v0 (S0.move rfl) rfl <| ?_  -- guard t74 (wants True) at t75 := move t5 [if #6=True]
  refine csTh (t := 74) rfl (rfl) ?_
  refine gT rfl <| v0 (S0.move rfl) rfl <| gT rfl <| v0 (S0.cmp rfl rfl rfl) rfl <| v0 (S0.pickT rfl rfl) rfl <| v0 (S0.move rfl) rfl <| ?_  -- guard t78 (wants True) at t79 := move t6 [if #10=True]
  refine csTh (t := 78) rfl (rfl) ?_
  refine gT rfl <| v0 (S0.move rfl) rfl <| gT rfl <| v0 (S0.cmp rfl rfl rfl) rfl <| v0 (S0.pickT rfl rfl) rfl <| v0 (S0.move rfl) rfl <| ?_  -- guard t82 (wants True) at t83 := move t7 [if #14=True]
  refine csTh (t := 82) rfl (rfl) ?_
  refine gT rfl <| v0 (S0.move rfl) rfl <| gT rfl <| v0 (S0.cmp rfl rfl rfl) rfl <| v0 (S0.pickT rfl rfl) rfl <| v0 (S0.move rfl) rfl <| ?_  -- guard t86 (wants True) at t87 := move t8 [if #18=True]
  refine csTh (t := 86) rfl (rfl) ?_
  refine gT rfl <| v0 (S0.move rfl) rfl <| gT rfl <| v0 (S0.cmp rfl rfl rfl) rfl <| v0 (S0.pickT rfl rfl) rfl <| v0 (S0.move rfl) rfl <| ?_  -- guard t90 (wants True) at t91 := move t9 [if #22=True]
  refine csTh (t := 90) rfl (rfl) ?_
  refine gT rfl <| v0 (S0.move rfl) rfl <| gT rfl <| v0 (S0.cmp rfl rfl rfl) rfl <| v0 (S0.pickT rfl rfl) rfl <| v0 (S0.move rfl) rfl <| ?_  -- guard t94 (wants True) at t95 := move t10 [if #26=True]
  refine csTh (t := 94) rfl (rfl) ?_
  refine gT rfl <| v0 (S0.move rfl) rfl <| gT rfl <| v0 (S0.cmp rfl rfl rfl) rfl <| v0 (S0.pickT rfl rfl) rfl <| v0 (S0.move rfl) rfl <| ?_  -- guard t98 (wants True) at t99 := move t11 [if #30=True]
  refine csTh (t := 98) rfl (rfl) ?_
  refine gT rfl <| v0 (S0.move rfl) rfl <| gT rfl <| vnv (S1.buildSlice rfl (qs := [(0, _)]) rfl rfl) rfl fun b100 => ?_  -- op t101 := call F17{rivulet/rivuletref04.Ints}(t99, t100) [if #30=True]
  refine gT rfl <| vcd (S1.callF rfl (ints_spec hs1 (row_int (l := [1]) rfl) (by decide)) (take1 (atS (atS (atS (atS (atS (atS (atS (atS at0)))))))) (take1 at0 take0))) rfl ?_
  refine v0 (S0.pickT rfl rfl) rfl <| v0 (S0.move rfl) rfl <| ?_  -- guard t103 (wants True) at t104 := move t12 [if #35=True]
  refine csTh (t := 103) rfl (rfl) ?_
  refine gT rfl <| v0 (S0.move rfl) rfl <| gT rfl <| v0 (S0.lenSl rfl) rfl <| gT rfl <| v0 (S0.cmp rfl rfl rfl) rfl <| v0 (S0.pickT rfl rfl) rfl <| v0 (S0.move rfl) rfl <| ?_  -- guard t108 (wants True) at t109 := move t13 [if #40=True]
  refine csTh (t := 108) rfl (rfl) ?_
  refine gT rfl <| v0 (S0.move rfl) rfl <| gT rfl <| v0 (S0.lenSl rfl) rfl <| gT rfl <| v0 (S0.cmp rfl rfl rfl) rfl <| v0 (S0.pickT rfl rfl) rfl <| v0 (S0.move rfl) rfl <| ?_  -- guard t113 (wants True) at t114 := move t14 [if #45=True]
  refine csTh (t := 113) rfl (rfl) ?_
  refine gT rfl <| v0 (S0.move rfl) rfl <| gT rfl <| v0 (S0.cmpS rfl rfl rfl) rfl <| v0 (S0.pickT rfl rfl) rfl <| v0 (S0.move rfl) rfl <| ?_  -- guard t117 (wants True) at t118 := move t16 [if #49=True]
  refine csTh (t := 117) rfl (rfl) ?_
  refine gT rfl <| v0 (S0.move rfl) rfl <| gT rfl <| v0 (S0.cmp rfl rfl rfl) rfl <| v0 (S0.pickT rfl rfl) rfl <| v0 (S0.move rfl) rfl <| ?_  -- guard t121 (wants True) at t122 := move t18 [if #53=True]
  refine csTh (t := 121) rfl (rfl) ?_
  refine gT rfl <| v0 (S0.move rfl) rfl <| gT rfl <| v0 (S0.cmp rfl rfl rfl) rfl <| v0 (S0.pickT rfl rfl) rfl <| v0 (S0.move rfl) rfl <| ?_  -- guard t125 (wants True) at t126 := move t19 [if #57=True]
  refine csTh (t := 125) rfl (rfl) ?_
  refine gT rfl <| v0 (S0.move rfl) rfl <| gT rfl <| v0 (S0.cmp rfl rfl rfl) rfl <| v0 (S0.pickT rfl rfl) rfl <| v0 (S0.move rfl) rfl <| ?_  -- guard t129 (wants True) at t130 := move t1 [if #61=True]
  refine csTh (t := 129) rfl (rfl) ?_
  refine gT rfl <| v0 (S0.move rfl) rfl <| ?_  -- op t131 := call F33{(*rivulet/device.Devices).Ids}(t130) [if #61=True]
  refine gT rfl <| vc (S1.callF rfl (ids_spec h12 DevOk.nil) (take1 (atS (atS at0)) take0)) rfl ?_
  rintro iv _ ⟨q4, hs4, rfl⟩
  refine app ?_
  obtain ⟨ia, ic, rfl, -, -⟩ := hs4.intsE
  refine gT rfl <| v0 (S0.lenSl rfl) rfl <| gT rfl <| v0 (S0.cmp rfl rfl rfl) rfl <| v0 (S0.pickT rfl rfl) rfl <| v0 (S0.move rfl) rfl <| ?_  -- guard t135 (wants True) at t136 := move t15 [if #67=True]
  refine csTh (t := 135) rfl (rfl) ?_
  refine gT rfl <| v0 (S0.move rfl) rfl <| ?_  -- op t137 := call F33{(*rivulet/device.Devices).Ids}(t136) [if #67=True]
  refine gT rfl <| vc (S1.callF rfl (ids_spec ho ok3) (take1 (atS (atS (atS (atS (atS at0))))) take0)) rfl ?_
  rintro iv2 _ ⟨q5, hs5, rfl⟩
  refine app ?_
  refine gT rfl <| vnv (S1.buildSlice rfl (qs := [(0, _)]) rfl rfl) rfl fun b138 => ?_  -- op t139 := call F17{rivulet/rivuletref04.Ints}(t137, t138) [if #67=True]
  refine gT rfl <| vcd (S1.callF rfl (ints_spec hs5 (row_int (l := [1]) rfl) (by decide)) (take1 (atS at0) (take1 at0 take0))) rfl ?_
  refine v0 (S0.pickT rfl rfl) rfl <| v0 (S0.move rfl) rfl <| ?_  -- guard t141 (wants True) at t142 := move t15 [if #73=True]
  refine csTh (t := 141) rfl (rfl) ?_
  refine gT rfl <| v0 (S0.move rfl) rfl <| ?_  -- op t143 := call F26{(*rivulet/device.Devices).Filters}(t142, 1:i64) [if #73=True]
  refine gT rfl <| vc (S1.callF rfl (filters_spec ho ok3 1) (take1 (atS (atS at0)) take0)) rfl ?_
  rintro fv _ ⟨q6, hs6, rfl⟩
  refine app ?_
  refine gT rfl <| vnv (S1.buildSlice rfl (qs := [(0, _)]) rfl rfl) rfl fun b144 => ?_  -- op t145 := call F32{rivulet/rivuletref02.Same}(t143, t144) [if #73=True]
  refine gT rfl <| vcd (S1.callF rfl (same_spec hs6.rdS (row_str (l := [[97, 47, 43]]) rfl) (by decide)) (take1 (atS at0) (take1 at0 take0))) rfl ?_
  refine v0 (S0.pickT rfl rfl) rfl <| v0 (S0.move rfl) rfl <| ?_  -- guard t147 (wants True) at t148 := move t15 [if #79=True]
  refine csTh (t := 147) rfl (rfl) ?_
  refine gT rfl <| v0 (S0.move rfl) rfl <| ?_  -- op t149 := call F25{(*rivulet/device.Devices).Marks}(t148, 1:i64) [if #79=True]
  refine gT rfl <| vc (S1.callF rfl (mrks_spec ho ok3 1) (take1 (atS (atS at0)) take0)) rfl ?_
  rintro mv _ ⟨q7, hs7, rfl⟩
  refine app ?_
  refine gT rfl <| v0 (S0.build rfl (qs := [(0, _), (1, _)]) rfl) rfl <| gT rfl <| vnv (S1.buildSlice rfl (qs := [(0, _)]) rfl rfl) rfl fun b151 => ?_  -- op t152 := call F34{rivulet/rivuletref06.Equal}(t149, t151) [if #79=True]
  refine gT rfl <| vcd (S1.callF rfl (requal_spec hs7 (row_mk (3, 5)) (by decide)) (take1 (atS at0) (take1 at0 take0))) rfl ?_
  refine v0 (S0.pickT rfl rfl) rfl <| v0 (S0.move rfl) rfl <| ?_  -- guard t154 (wants True) at t155 := move t15 [if #86=True]
  refine csTh (t := 154) rfl (rfl) ?_
  refine gT rfl <| v0 (S0.move rfl) rfl <| ?_  -- op t156 := call F26{(*rivulet/device.Devices).Filters}(t155, 2:i64) [if #86=True]
  refine gT rfl <| vc (S1.callF rfl (filters_spec ho ok3 2) (take1 (atS (atS at0)) take0)) rfl ?_
  rintro fv2 _ ⟨q8, hs8, rfl⟩
  refine app ?_
  obtain ⟨fa, fc, rfl, -, -⟩ := hs8.strsE
  refine gT rfl <| v0 (S0.lenSl rfl) rfl <| gT rfl <| v0 (S0.cmp rfl rfl rfl) rfl <| v0 (S0.pickT rfl rfl) rfl <| v0 (S0.assign rfl) rfl <| vE <| WP.ret <| ?_  -- ret
  refine Leaves.drop take0 ?_
  refine r1 rfl rfl ⟨?_, rfl⟩
  rfl
end Go.Proofs.YtanecnnfpdhadaaGreatDoor
/- L4 -/
namespace Go.Proofs.YtanecnnfpdhadaaGreatDoor
open Go

theorem min400 (n : Nat) : (if (400 : Int) < (n : Int) then 400 else (n : Int)) = ((min n 400 : Nat) : Int) := by split <;> omega
theorem take_min400 (l : Str) : (l.drop 0).take (min l.length 400 - 0) = l.take 400 := by
  rw [List.drop_zero, Nat.sub_zero]
  rcases Nat.le_total l.length 400 with h | h
  · rw [Nat.min_eq_left h, List.take_length, List.take_of_length_le h]
  · rw [Nat.min_eq_right h]
theorem deviceLoads_walk (W : World) (s0 : Str) (hs0 : s0.length ≤ maxLen) : FN Tryz.prog 4 [sv s0] [whole W] (fun v h => v = .bool true ∧ h = [whole W]) := by
  refine FN.intro 48 [(0, sv s0)] Tryz.func4 rfl (enters Tryz.func4 (by kernel_rfl) rfl) Tryz.ntmps4 rfl rfl ?_
  refine WP.seq <| WP.region <| v0 (S0.assign rfl) rfl <| vE <| WP.seq <| WP.region <| v0 (S0.move rfl) rfl <| v0 (S0.move rfl) rfl <| v0 (S0.lenSt rfl) rfl <| v0 (S0.min2 rfl rfl rfl) rfl <| ?_  -- op t11 := slice 9 t7 none t10 none
  rw [min400]
  refine v0 (S0.sliceSt (i := 0) (j := min s0.length 400) rfl rfl rfl ⟨Nat.zero_le _, by omega⟩) rfl <| ?_
  rw [take_min400]
  have hs : (s0.take 400).length ≤ 400 := by rw [List.length_take]; omega
  generalize s0.take 400 = s at hs
  refine v0 (S0.assign rfl) rfl <| vE <| WP.seq <| WP.region <| v0 (S0.move rfl) rfl <| ?_  -- op t14 := call F20{rivulet/device.Load}(t13)
  refine vc (S1.callF rfl (load_spec (s := s) (by omega)) take0) rfl ?_
  rintro _ _ (⟨S, db, c, j, hl, ho, hd, rfl, rfl⟩ | ⟨j, hl, rfl, rfl⟩)
  refine app ?_
  skip
  · skip
    refine v0 (S0.move rfl) rfl <| v0 (S0.extract rfl rfl) rfl <| v0 (S0.extract rfl rfl) rfl <| v0 (S0.assign rfl) rfl <| v0 (S0.assign rfl) rfl <| vE <| WP.seq <| WP.region <| v0 (S0.move rfl) rfl <| ?_  -- op t19 := call F24{rivulet/rivuletref19.Load}(t18)
    refine vc (S1.callF rfl (rload_spec (s := s) (by omega)) take0) rfl ?_
    rintro _ _ (⟨S', rb, rc, hl2, ho2, hr, rfl, rfl⟩ | ⟨hl2, rfl, rfl⟩)
    refine app ?_
    · rw [hl] at hl2
      cases hl2
      refine v0 (S0.move rfl) rfl <| v0 (S0.extract rfl rfl) rfl <| v0 (S0.extract rfl rfl) rfl <| v0 (S0.assign rfl) rfl <| v0 (S0.assign rfl) rfl <| vE <| WP.seq <| WP.seq <| WP.region <| v0 (S0.move rfl) rfl <| v0 (S0.move rfl) rfl <| v0 (S0.cmp rfl rfl rfl) rfl <| v0 (S0.move rfl) rfl <| ?_  -- guard t25 (wants False) at t26 := move t3 [if #3=False]
      refine csFh (t := 25) rfl (rfl) ?_
      refine gT rfl <| v0 (S0.move rfl) rfl <| gT rfl <| v0 (S0.nilP rfl rfl rfl rfl) rfl <| gT rfl <| v0 (S0.move rfl) rfl <| gT rfl <| v0 (S0.nilP rfl rfl rfl rfl) rfl <| gT rfl <| v0 (S0.cmpB rfl rfl rfl) rfl <| v0 (S0.pickF rfl rfl) rfl <| vE <| ?_  -- cond
      refine WP.condFh rfl (rfl) ?_
      refine WP.skip <| WP.seq <| WP.region <| v0 (S0.move rfl) rfl <| v0 (S0.nilP rfl rfl rfl rfl) rfl <| v0 (S0.move rfl) rfl <| ?_  -- guard t34 (wants False) at t35 := move t3 [if #2=False]
      refine csFh (t := 34) rfl (rfl) ?_
      refine gT rfl <| v0 (S0.move rfl) rfl <| gT rfl <| v0 (S0.move rfl) rfl <| ?_  -- op t37 := call F22{rivulet/rivuletlaw19.same}(t35, t36) [if #2=False]
      refine gT rfl <| vcd (S1.callF rfl (sameD_spec hd hr ho) (take1 (atS at0) (take1 at0 take0))) rfl ?_
      refine gT rfl <| v0 (S0.move rfl) rfl <| ?_  -- guard t38 (wants True) at t39 := move t3 [if #6=True]
      refine csTh (t := 38) rfl (rfl) ?_
      refine gT rfl <| v0 (S0.move rfl) rfl <| ?_  -- op t40 := call F21{(*rivulet/device.Devices).Save}(t39) [if #6=True]
      refine gT rfl <| vcd (S1.callF rfl (save_spec hd ho) (take1 at0 take0)) rfl ?_
      rw [load_save' hl]
      refine gT rfl <| v0 (S0.move rfl) rfl <| gT rfl <| v0 (S0.cmpS rfl rfl rfl) rfl <| gT rfl <| v0 (S0.pickT rfl rfl) rfl <| v0 (S0.pickF rfl rfl) rfl <| v0 (S0.move rfl) rfl <| ?_  -- guard t45 (wants True) at t46 := call F23{rivulet/rivuletlaw19.fixed}() [if #13=True]
      refine csTh (t := 45) rfl ((by simp)) ?_
      -- (nothing to walk: op t46 := call F23{rivulet/rivuletlaw19.fixed}() [if #13=True])
      refine gT rfl <| vcd (S1.callF rfl (fixed_spec) take0) rfl ?_
      refine v0 (S0.pickT rfl rfl) rfl <| v0 (S0.assign rfl) rfl <| vE <| WP.ret <| ?_  -- ret
      refine Leaves.drop (take1 (atS (atS (atS at0))) take0) ?_
      refine r1 rfl rfl ?_
      exact ⟨by simp, rfl⟩
    · rw [hl] at hl2; cases hl2
  · skip
    refine v0 (S0.move rfl) rfl <| v0 (S0.extract rfl rfl) rfl <| v0 (S0.extract rfl rfl) rfl <| v0 (S0.assign rfl) rfl <| v0 (S0.assign rfl) rfl <| vE <| WP.seq <| WP.region <| v0 (S0.move rfl) rfl <| ?_  -- op t19 := call F24{rivulet/rivuletref19.Load}(t18)
    refine vc (S1.callF rfl (rload_spec (s := s) (by omega)) take0) rfl ?_
    rintro _ _ (⟨S', rb, rc, hl2, ho2, hr, rfl, rfl⟩ | ⟨hl2, rfl, rfl⟩)
    refine app ?_
    · rw [hl] at hl2; cases hl2
    · refine v0 (S0.move rfl) rfl <| v0 (S0.extract rfl rfl) rfl <| v0 (S0.extract rfl rfl) rfl <| v0 (S0.assign rfl) rfl <| v0 (S0.assign rfl) rfl <| vE <| WP.seq <| WP.seq <| WP.region <| v0 (S0.move rfl) rfl <| v0 (S0.move rfl) rfl <| v0 (S0.cmp rfl rfl rfl) rfl <| v0 (S0.move rfl) rfl <| ?_  -- guard t25 (wants False) at t26 := move t3 [if #3=False]
      refine csFh (t := 25) rfl (rfl) ?_
      refine gT rfl <| v0 (S0.move rfl) rfl <| gT rfl <| v0 (S0.nilP rfl rfl rfl rfl) rfl <| gT rfl <| v0 (S0.move rfl) rfl <| gT rfl <| v0 (S0.nilP rfl rfl rfl rfl) rfl <| gT rfl <| v0 (S0.cmpB rfl rfl rfl) rfl <| v0 (S0.pickF rfl rfl) rfl <| vE <| ?_  -- cond
      refine WP.condFh rfl (rfl) ?_
      refine WP.skip <| WP.seq <| WP.region <| v0 (S0.move rfl) rfl <| v0 (S0.nilP rfl rfl rfl rfl) rfl <| v0 (S0.move rfl) rfl <| ?_  -- guard t34 (wants False) at t35 := move t3 [if #2=False]
      refine csTh (t := 34) rfl (rfl) ?_
      refine gF rfl rfl <| gF rfl rfl <| gF rfl rfl <| gF rfl rfl <| gF rfl rfl <| gF rfl rfl <| gF rfl rfl <| gF rfl rfl <| gF rfl rfl <| v0 (S0.pickT rfl rfl) rfl <| v0 (S0.move rfl) rfl <| ?_  -- op t46 := call F23{rivulet/rivuletlaw19.fixed}() [if #13=True]
      refine gT rfl <| vcd (S1.callF rfl (fixed_spec) take0) rfl ?_
      refine v0 (S0.pickT rfl rfl) rfl <| v0 (S0.assign rfl) rfl <| vE <| WP.ret <| ?_  -- ret
      refine Leaves.drop (take1 (atS at0) take0) ?_
      refine r1 rfl rfl ?_
      exact ⟨rfl, rfl⟩
end Go.Proofs.YtanecnnfpdhadaaGreatDoor
/- Door -/
/-
  A world in which Go's two tables of utf8 are laid.
-/
namespace Go.Proofs.YtanecnnfpdhadaaGreatDoor
open Go

def u8s (l : List Nat) : Array Value := (l.map fun (n : Nat) => Value.int .u8 n).toArray
def acceptZ : List Nat := [128, 191, 160, 191, 128, 159, 144, 191, 128, 143, 0, 0, 0, 0, 0, 0, 0, 0, 0, 0, 0, 0, 0, 0, 0, 0, 0, 0, 0, 0, 0, 0]
noncomputable def laidWorld (os : Os) : World :=
  let w0 := World.holding Tryz.prog os ⟨#[], #[], []⟩
  { w0 with heap := (w0.heap.modify 1 fun
      | .cells _ t frozen => .cells (u8s acceptZ) t frozen
      | o => o).modify 0 fun
      | .cells _ t frozen => .cells (u8s Go.Pinned.utf8FirstZ) t frozen
      | o => o }
abbrev laidList : List (String × DataW Unit) := [("unicode/utf8.acceptRanges", Rows.laid_unicode_utf8_acceptRanges), ("unicode/utf8.first", Rows.laid_unicode_utf8_first)]
set_option maxRecDepth 100000 in
theorem laidWorld_met (os : Os) (args : Array Value) : laidMetH Tryz.prog laidList ((laidWorld os).forCall (fun _ _ => 0) ⟨#[], args, []⟩).memory :=
  laidMetH_of_parts (laidMet_of_run' 100 (by kernel_rfl) (by kernel_rfl)) (by kernel_rfl)
end Go.Proofs.YtanecnnfpdhadaaGreatDoor
