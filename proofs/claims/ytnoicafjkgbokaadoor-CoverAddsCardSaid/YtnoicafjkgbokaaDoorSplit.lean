import Derived.Test.YtnoicafjkgbokaaDoorTypes
import Derived.Test.YtnoicafjkgbokaaDoorShelf
import Derived.Test.YtnoicafjkgbokaaDoorTop0
namespace Go.Proofs.YtnoicafjkgbokaaDoor
open Go

theorem FN.ofCalls {P : Program} {g : Nat} {args : List Value} {v : Value} (he : ∀ a w, (callFunc g a).run P w = .ok (.enter g a) w) (H : ∀ w, Calls P g ⟨args⟩ w fun e w' => e = .returned v ∧ w' = w) : FN P g args [] (is v []) :=
  ⟨he, fun _ _ w st => (H w).mono fun _ _ ⟨e1, e2⟩ => ⟨v, [], e1, ⟨rfl, rfl⟩, by subst e2; exact st⟩⟩
theorem idx_neg (c : UInt8) : ∀ (s : Str), Lib.indexByte s c < 0 → c ∉ s
  | [], _ => by simp
  | b :: s, h => by
    unfold Lib.indexByte at h
    split at h
    · omega
    · rename_i hb
      have hb' : ¬ b = c := by simpa using hb
      have h2 : Lib.indexByte s c < 0 := by
        split at h
        · rename_i h3; have : Lib.indexByte s c = -1 := by simpa using h3
          omega
        · omega
      have := idx_neg c s h2
      simp only [List.mem_cons, not_or]
      exact ⟨fun e => hb' e.symm, this⟩
theorem idx_pos (c : UInt8) : ∀ (s : Str), ¬ Lib.indexByte s c < 0 → ∃ a b, s = a ++ c :: b ∧ Lib.indexByte s c = (a.length : Int) ∧ c ∉ a
  | [], h => by simp [Lib.indexByte] at h
  | b :: s, h => by
    unfold Lib.indexByte at h ⊢
    split at h
    · rename_i hb
      rw [if_pos hb]
      have hb' : b = c := by simpa using hb
      exact ⟨[], s, by simp [hb'], by simp, by simp⟩
    · rename_i hb
      rw [if_neg hb]
      have hb' : ¬ b = c := by simpa using hb
      split at h
      · omega
      · rename_i h2
        rw [if_neg h2]
        have hge := Lib.indexByte_ge s c
        have h3 : ¬ Lib.indexByte s c = -1 := by simpa using h2
        obtain ⟨a, b2, e1, e2, e3⟩ := idx_pos c s (by omega)
        refine ⟨b :: a, b2, by rw [e1]; rfl, by rw [e2]; simp, ?_⟩
        simp only [List.mem_cons, not_or]
        exact ⟨fun e => hb' e.symm, e3⟩
theorem Sup.mid (c : List Blk) (k a : Hp) : Sup (c :: (k ++ a)) (c :: a) :=
  ⟨k, by simp only [List.flatten_cons, List.flatten_append, List.append_assoc]; exact List.Perm.append_left _ List.perm_append_comm⟩
theorem index_slash (s : Str) : FN Tryd.prog 84 [sv s, sv [47]] [] (is (.int .i64 (Lib.indexByte s 47)) []) :=
  FN.ofCalls (enters Tryd.func84 (by kernel_rfl) rfl) (fun w => Tryd.strings_Index_one ⟨⟨s⟩⟩ 47 w)

theorem split_iter {bs bp b0 : Nat} {s : Str} (hl : s.length ≤ 1000000) : IterF Tryd.prog 82 [.pointer (some ⟨bp, 0, none⟩), .pointer (some ⟨bs, 0, none⟩), .pointer (some ⟨b0, 0, none⟩)]
    [[(bs, cel [sv s] 9)], [(bp, cel [sv [47]] 9)], [(b0, cel [.int .i64 0] 3)]] [] (fun x : Str => [sv x]) (fun pre x => ∃ post, levels s = pre ++ x :: post) (fun xs => xs = levels s) (fun _ => True) := by
  refine ⟨enters Tryd.func82 (by kernel_rfl) rfl, fun l J Jx hJ hY h0 hJ0 => ?_⟩
  show FN _ _ _ ([(bs, cel [sv s] 9)] :: [(bp, cel [sv [47]] 9)] :: [(b0, cel [.int .i64 0] 3)] :: h0) _
  refine FN.intro 52 [(0, .func (.yield l) #[] #[]), (1, .pointer (some ⟨bp, 0, none⟩)), (2, .pointer (some ⟨bs, 0, none⟩)), (3, .pointer (some ⟨b0, 0, none⟩))] Tryd.func82 rfl (enters Tryd.func82 (by kernel_rfl) rfl) Tryd.ntmps82 rfl rfl ?_
  refine WP.seq <| WP.seq <| WP.region <| v0 (S0.load rfl rfl) rfl <| v0 (S0.lenSt rfl) rfl <| v0 (S0.cmp rfl rfl rfl) rfl <| vE <| ?_  -- cond
  refine WP.condFh rfl (rfl) ?_
  refine WP.skip <| WP.seq <| WP.block <| ?_  -- Code.loop
  refine WP.loop (fun s2 : List Str × Str × Hp => levels s = s2.1 ++ levels s2.2.1 ∧ s2.2.1.length ≤ 1000000 ∧ J s2.1 s2.2.2) (fun s2 : List Str × Str × Hp => [(0, .func (.yield l) #[] #[]), (1, .pointer (some ⟨bp, 0, none⟩)), (2, .pointer (some ⟨bs, 0, none⟩)), (3, .pointer (some ⟨b0, 0, none⟩))]) (fun s2 : List Str × Str × Hp => [(bs, cel [sv s2.2.1] 9)] :: [(bp, cel [sv [47]] 9)] :: [(b0, cel [.int .i64 0] 3)] :: s2.2.2) (fun s2 : List Str × Str × Hp => s2.2.1.length) (([], s, h0)) (⟨by simp, hl, hJ0⟩) ⟨rfl, rfl, rfl, rfl, trivial⟩ ⟨[], by simp⟩ (fun s2 hinv => ?_) 
  obtain ⟨pre, rest, h⟩ := s2
  have h47 : ([47] : Str).length = 1 := rfl
  obtain ⟨hlev, hlen, hJs⟩ := hinv
  dsimp only at *
  have hpy : ∀ (h4 : Hp) (x : Str), (h4 ++ ([(bs, cel [sv x] 9)] :: [(bp, cel [sv [47]] 9)] :: [(b0, cel [.int .i64 0] 3)] :: [] : Hp)).flatten.Perm (([(bs, cel [sv x] 9)] :: [(bp, cel [sv [47]] 9)] :: [(b0, cel [.int .i64 0] 3)] :: h4 : Hp).flatten ++ ([] : Hp).flatten) := fun h4 x => by
    simp only [List.flatten_append, List.flatten_cons, List.flatten_nil, List.append_nil, List.cons_append, List.nil_append]
    exact List.perm_append_comm (l₂ := [_, _, _])
  refine WP.block <| WP.seq <| WP.region <| v0 (S0.load rfl rfl) rfl <| v0 (S0.load rfl rfl) rfl <| ?_  -- op t31 := call F84{strings.Index}(t29, t30)
  refine vcd (S1.callF rfl (index_slash rest) take0) rfl ?_
  refine v0 (S0.assign rfl) rfl <| vE <| WP.seq <| WP.seq <| WP.region <| v0 (S0.move rfl) rfl <| v0 (S0.cmp rfl rfl rfl) rfl <| vE <| ?_  -- cond
  first | refine WP.condP rfl (fun hneg => ?_) (fun hneg => ?_) | refine WP.condN rfl (fun hneg => ?_) (fun hneg => ?_) | refine WP.cond rfl (fun hneg => ?_) (fun hneg => ?_)
  · skip
    refine WP.exit <| WP.region <| v0 (S0.move rfl) rfl <| v0 (S0.load rfl rfl) rfl <| ?_  -- op t51 := call t49(t50)
    have hno := idx_neg 47 rest hneg
    rw [levels_none hno] at hlev
    refine ve (S1.yield (hr := [(bs, cel [sv rest] 9)] :: [(bp, cel [sv [47]] 9)] :: [(b0, cel [.int .i64 0] 3)] :: []) rfl rfl (hY pre rest h hJs ⟨[], hlev⟩) (by
        simp only [List.flatten_cons, List.flatten_nil, List.append_nil, List.cons_append, List.nil_append]
        exact List.perm_append_comm (l₁ := [_, _, _]))) rfl ?_
    rintro _ _ ⟨h4, ⟨bb, rfl, hpost⟩, rfl⟩
    refine vE <| ?_  -- fnend
    refine Leaves.drop (h' := [(bs, cel [sv rest] 9)] :: [(bp, cel [sv [47]] 9)] :: [(b0, cel [.int .i64 0] 3)] :: h4) (k := []) (hpy h4 rest) ?_
    refine r0 rfl ?_
    refine ⟨[[(bs, cel [sv rest] 9)], [(bp, cel [sv [47]] 9)], [(b0, cel [.int .i64 0] 3)]], pre ++ [rest], h4, trivial, rfl, ?_⟩
    rcases hpost with ⟨-, h1⟩ | ⟨-, h1⟩
    · exact .inl ⟨hlev.symm, h1⟩
    · exact .inr h1
  · skip
    obtain ⟨a, b, rfl, hidx, hna⟩ := idx_pos 47 rest hneg
    rw [hidx]
    rw [levels_cut b hna] at hlev
    simp only [List.length_append, List.length_cons] at hlen
    refine WP.skip <| WP.seq <| WP.region <| v0 (S0.load rfl rfl) rfl <| v0 (S0.move rfl) rfl <| v0 (S0.load rfl rfl) rfl <| v0 (S0.ari rfl rfl rfl (wrap_i64 (by omega))) rfl <| ?_  -- op t38 := slice 9 t34 none t37 none
    refine v0 (S0.sliceSt (i := 0) (j := a.length) rfl rfl rfl (by simp)) rfl <| ?_
    simp only [List.drop_zero, Nat.sub_zero, List.take_left]
    refine v0 (S0.assign rfl) rfl <| vE <| WP.seq <| WP.seq <| WP.region <| v0 (S0.move rfl) rfl <| v0 (S0.move rfl) rfl <| ?_  -- op t41 := call t39(t40)
    refine ve (S1.yield (hr := [(bs, cel [sv (a ++ 47 :: b)] 9)] :: [(bp, cel [sv [47]] 9)] :: [(b0, cel [.int .i64 0] 3)] :: []) rfl rfl (hY pre a h hJs ⟨_, hlev⟩) (by
        simp only [List.flatten_cons, List.flatten_nil, List.append_nil, List.cons_append, List.nil_append]
        exact List.perm_append_comm (l₁ := [_, _, _]))) rfl ?_
    rintro _ _ ⟨h4, ⟨bb, rfl, hpost⟩, rfl⟩
    refine v0 (S0.not rfl) rfl <| vE <| ?_  -- cond
    rcases hpost with ⟨rfl, hJ2⟩ | ⟨rfl, hJ2⟩
    skip
    · skip
      refine WP.condFh rfl (rfl) ?_
      refine WP.perm (h' := [(bs, cel [sv (a ++ 47 :: b)] 9)] :: [(bp, cel [sv [47]] 9)] :: [(b0, cel [.int .i64 0] 3)] :: h4) (k := []) (hpy h4 _) ?_
      refine WP.skip <| WP.region <| v0 (S0.load rfl rfl) rfl <| v0 (S0.move rfl) rfl <| v0 (S0.load rfl rfl) rfl <| v0 (S0.lenSt rfl) rfl <| v0 (S0.ari rfl rfl rfl (wrap_i64 (by omega))) rfl <| ?_  -- op t48 := slice 9 t43 t47 none none
      refine v0 (S0.sliceSt (i := a.length + 1) (j := (a ++ 47 :: b).length) rfl rfl rfl (by simp)) rfl <| ?_
      have e : ((a ++ 47 :: b).drop (a.length + 1)).take ((a ++ 47 :: b).length - (a.length + 1)) = b := by
        have e1 : (a ++ 47 :: b).drop (a.length + 1) = b := by rw [List.drop_append]; simp
        rw [e1, List.take_of_length_le (by simp; omega)]
      rw [e]
      refine vs (S1.store rfl rfl (by first | rfl | exact IsSl.cv (by assumption))) <| vE <| ?_  -- roundend
      exact ⟨(pre ++ [a], b, h4), (by first | exact ⟨by rw [hlev]; simp, by omega, hJ2⟩ | (dsimp only; exact ⟨by rw [hlev]; simp, by omega, hJ2⟩)), (by simp; omega), ⟨⟨rfl, rfl, rfl, rfl, trivial⟩, rfl, rfl⟩, ⟨[], by simp⟩⟩
    · skip
      refine WP.condTh rfl (rfl) ?_
      refine WP.ret <| ?_  -- ret
      refine Leaves.drop (h' := [(bs, cel [sv (a ++ 47 :: b)] 9)] :: [(bp, cel [sv [47]] 9)] :: [(b0, cel [.int .i64 0] 3)] :: h4) (k := []) (hpy h4 _) ?_
      refine r0 rfl ?_
      exact ⟨[[(bs, cel [sv (a ++ 47 :: b)] 9)], [(bp, cel [sv [47]] 9)], [(b0, cel [.int .i64 0] 3)]], pre ++ [a], h4, trivial, rfl, .inr hJ2⟩

theorem splitSeq_spec (s : Str) : FN Tryd.prog 61 [sv s, sv [47]] [] (fun v h => ∃ bs bp b0, v = .func (.func 82) ⟨[]⟩ ⟨[.pointer (some ⟨bp, 0, none⟩), .pointer (some ⟨bs, 0, none⟩), .pointer (some ⟨b0, 0, none⟩)]⟩ ∧ h = [[(b0, cel [.int .i64 0] 3)], [(bp, cel [sv [47]] 9)], [(bs, cel [sv s] 9)]]) := by
  have inner : FN Tryd.prog 75 [sv s, sv [47], .int .i64 0] [] (fun v h => ∃ bs bp b0, v = .func (.func 82) ⟨[]⟩ ⟨[.pointer (some ⟨bp, 0, none⟩), .pointer (some ⟨bs, 0, none⟩), .pointer (some ⟨b0, 0, none⟩)]⟩ ∧ h = [[(b0, cel [.int .i64 0] 3)], [(bp, cel [sv [47]] 9)], [(bs, cel [sv s] 9)]]) := by
    refine FN.intro 8 [(0, sv s), (1, sv [47]), (2, .int .i64 0)] Tryd.func75 rfl (enters Tryd.func75 (by kernel_rfl) rfl) Tryd.ntmps75 rfl rfl ?_
    refine WP.seq <| WP.region <| vn (S1.box rfl rfl) rfl fun b3 => vn (S1.box rfl rfl) rfl fun b4 => vn (S1.box rfl rfl) rfl fun b5 => v0 (S0.assign rfl) rfl <| vE <| WP.seq <| WP.region <| v0 (S0.makeFunc rfl rfl) rfl <| v0 (S0.assign rfl) rfl <| vE <| WP.ret <| ?_  -- ret
    refine r1 rfl rfl ?_
    exact ⟨_, _, _, rfl, rfl⟩
  refine FN.intro 8 [(0, sv s), (1, sv [47])] Tryd.func61 rfl (enters Tryd.func61 (by kernel_rfl) rfl) Tryd.ntmps61 rfl rfl ?_
  refine WP.seq <| WP.region <| v0 (S0.assign rfl) rfl <| vE <| WP.seq <| WP.region <| v0 (S0.move rfl) rfl <| v0 (S0.move rfl) rfl <| ?_  -- op t7 := call F75{strings.splitSeq}(t5, t6, 0:i64)
  refine vc (S1.callF rfl (inner) take0) rfl ?_
  rintro _ _ ⟨bs, bp, b0, rfl, rfl⟩
  refine app ?_
  refine v0 (S0.assign rfl) rfl <| vE <| WP.ret <| ?_  -- ret
  refine r1 rfl rfl ?_
  exact ⟨_, _, _, rfl, rfl⟩

/-- topic.Levels -/
theorem levels_spec {s : Str} (hl : s.length ≤ 1000000) : FN Tryd.prog 51 [sv s] [] (fun v h => ∃ row, IsSl 9 1 v (strs (levels s)) row ∧ h = [row]) := by
  have hll := levels_len s
  refine FN.intro 13 [(0, sv s)] Tryd.func51 rfl (enters Tryd.func51 (by kernel_rfl) rfl) Tryd.ntmps51 rfl rfl ?_
  refine WP.seq <| WP.region <| v0 (S0.assign rfl) rfl <| vE <| WP.seq <| WP.region <| vn (S1.alloc) rfl fun b3 => vE <| WP.seq <| WP.seq <| WP.region <| v0 (S0.move rfl) rfl <| ?_  -- op t6 := call F61{strings.SplitSeq}(t5, Value.string {'data': [47]})
  refine vc (S1.callF rfl (splitSeq_spec s) take0) rfl ?_
  rintro _ _ ⟨bs, bp, b0, rfl, rfl⟩
  refine app ?_
  refine vE <| WP.block <| ?_  -- Code.rangeFunc
  refine WP.rangeSupF (split_iter hl) rfl (take1 (atS (atS at0)) (take1 (atS at0) (take1 at0 take0))) rfl (fun _ => rfl) ((fun pre h => ∃ v row, IsSl 9 1 v (strs pre) row ∧ h = [(b3, cel [v] 22)] :: row :: [])) ((fun _ _ _ => False)) ?_ ?_ ?_ ?_ ?_
  · rintro pre h -
    exact ⟨h, by simp⟩
  · exact ⟨_, ⟨_, [], .nil, rfl⟩, [], by simp⟩
  · rintro l pre x _ ⟨v, row, hsl, rfl⟩ ⟨post, hpost⟩
    have hlen : pre.length ≤ 1000000 := by
      have := congrArg List.length hpost
      simp at this; omega
    show WP _ _ _ _ ⟨_, (7, _) :: _, _⟩ _
    skip
    refine WP.region <| v0 (S0.assign rfl) rfl <| vE <| WP.block <| WP.region <| v0 (S0.load rfl rfl) rfl <| v0 (S0.move rfl) rfl <| vnv (S1.buildSlice rfl (qs := [(0, _)]) rfl rfl) rfl fun b10 => ?_  -- op t11 := append(t8, t10) :[22, 22]
    refine ve (S1.appendL rfl hsl rfl rfl (atS (atS at0)) rfl rfl (by rw [strs_len]; simp; omega)) rfl ?_
    rintro v2 _ ⟨row2, hsl2, rfl⟩
    refine vs (S1.store rfl rfl (by first | rfl | exact IsSl.cv (by assumption))) <| vE <| ?_  -- roundend
    refine ⟨_, ⟨v2, row2, ?_, rfl⟩, ?_⟩
    · simpa [strs] using hsl2
    · exact ⟨_, (take1 (atS (atS at0)) (take1 at0 take0))⟩
  · rintro D hi' xs h1 hx - hS ⟨v, row, hsl, rfl⟩ hsup
    refine WP.sup (hsup.trans (Sup.mid _ hi' _)) ?_
    subst hS
    skip
    refine WP.seq <| WP.region <| v0 (S0.load rfl rfl) rfl <| v0 (S0.assign rfl) rfl <| vE <| WP.ret <| ?_  -- ret
    refine rm (take1 at0 take0) ?_
    refine Leaves.drop (take1 (atS at0) take0) ?_
    refine r1 rfl rfl ?_
    exact ⟨row, hsl, rfl⟩
  · rintro D hi' c xs h1 hx - hf
    exact hf.elim
end Go.Proofs.YtnoicafjkgbokaaDoor
