import Derived.Test.YtgcclpfpnfmjcaaDoorTypes
import Derived.Test.YtgcclpfpnfmjcaaDoorElem
namespace Go.Proofs.YtgcclpfpnfmjcaaDoor
open Go

/-! the keys of a map -/
theorem keys_iter {m bx : Nat} {L : ML Int} {ck : Nat} (hw : WfM L ck) : Iter Tryd.prog 49 [.pointer (some ⟨bx, 0, none⟩)] [[(bx, cel [.map (some m)] 52)]] [[(m, mapO (Value.int .i64) L ck)]] (fun (x : Int × Value × Nat) => [.int .i64 x.1]) (fun pre x => x ∈ L ∧ x ∉ pre) (fun xs => xs.Perm L) := by
  refine ⟨enters Tryd.func49 (by kernel_rfl) rfl, fun l J Jx hJ hY h0 hJ0 => ?_⟩
  show FN _ _ _ ([(bx, cel [.map (some m)] 52)] :: h0) _
  obtain ⟨h2, hp2⟩ := hJ [] h0 hJ0
  refine FN.intro 14 [(0, .func (.yield l) #[] #[]), (1, .pointer (some ⟨bx, 0, none⟩))] Tryd.func49 rfl (enters Tryd.func49 (by kernel_rfl) rfl) Tryd.ntmps49 rfl rfl ?_
  refine WP.seq <| WP.region <| v0 (S0.load rfl rfl) rfl <| ?_  -- op t5 := range 52 t4
  refine WO.perm (h' := [(bx, cel [.map (some m)] 52)] :: [(m, mapO (Value.int .i64) L ck)] :: h2) (k := []) (by simpa using hp2) ?_
  refine vn (S1.range rfl) rfl fun b5 => ?_
  refine vE <| WP.block <| ?_  -- Code.loop
  refine WP.loop (fun s : ML Int × Hp => s.1.Nodup ∧ (∀ x ∈ s.1, x ∈ L) ∧ J s.1 s.2) (fun s : ML Int × Hp => [(0, .func (.yield l) #[] #[]), (1, .pointer (some ⟨bx, 0, none⟩)), (5, .pointer (some ⟨b5, 0, none⟩))]) (fun s : ML Int × Hp => [(b5, .mapIter (some m) ck ⟨s.1.map (·.2.2)⟩ ck)] :: [(bx, cel [.map (some m)] 52)] :: s.2) (fun s : ML Int × Hp => L.length - s.1.length) (([], h0)) (⟨by simp, by simp, hJ0⟩) ⟨rfl, rfl, rfl, trivial⟩ ⟨[], by simpa using hp2.symm⟩ (fun s hinv => ?_) 
  obtain ⟨xs, h⟩ := s
  obtain ⟨hn, hsub, hJs⟩ := hinv
  obtain ⟨h3, hp3⟩ := hJ xs h hJs
  dsimp only at *
  refine WP.seq <| WP.region <| ?_  -- op t6 := next t5 false
  refine WO.perm (h' := [(b5, .mapIter (some m) ck ⟨xs.map (·.2.2)⟩ ck)] :: [(bx, cel [.map (some m)] 52)] :: [(m, mapO (Value.int .i64) L ck)] :: h3) (k := []) (by simpa using hp3) ?_
  refine ve (S1.next hw rfl) rfl ?_
  rintro _ _ (⟨rfl, rfl, hall⟩ | ⟨y, hy, hyn, rfl, rfl⟩)
  skip
  · skip
    refine v0 (S0.extract rfl rfl) rfl <| vE <| WP.seq <| ?_  -- cond
    refine WP.condFh rfl (rfl) ?_
    refine WP.exit <| ?_  -- fnend
    refine Leaves.drop (h' := [(bx, cel [.map (some m)] 52)] :: h) (k := [[(b5, .mapIter (some m) ck ⟨xs.map (·.2.2)⟩ ck)]]) ?_ ?_
    · simp only [List.flatten_cons, List.flatten_nil, List.append_nil, List.cons_append, List.nil_append] at hp3 ⊢
      exact ((List.Perm.swap _ _ _).trans (((hp3.symm.cons _).trans (List.perm_append_singleton _ _).symm).cons _))
    refine r0 rfl ?_
    exact ⟨xs, h, rfl, .inl ⟨perm_of_all hw hn hsub hall, hJs⟩⟩
  · skip
    refine v0 (S0.extract rfl rfl) rfl <| vE <| WP.seq <| ?_  -- cond
    refine WP.condTh rfl (rfl) ?_
    refine WP.skip <| WP.block <| WP.seq <| WP.region <| ?_  -- op t8 := entry t5
    refine v0 (S0.entry (pre := xs.map (·.2.2)) hw hy (hi := by first | infer_instance | (simp; infer_instance)) rfl) rfl <| ?_
    refine v0 (S0.extract rfl rfl) rfl <| v0 (S0.assign rfl) rfl <| vE <| WP.seq <| WP.region <| v0 (S0.move rfl) rfl <| v0 (S0.move rfl) rfl <| ?_  -- op t12 := call t10(t11)
    refine ve (S1.yield (hr := [(b5, .mapIter (some m) ck ⟨xs.map (·.2.2) ++ [y.2.2]⟩ ck)] :: [(bx, cel [.map (some m)] 52)] :: []) rfl rfl (hY xs y h hJs ⟨hy, fun hm => hyn (List.mem_map.2 ⟨y, hm, rfl⟩)⟩) (by
        simp only [List.flatten_cons, List.flatten_nil, List.append_nil, List.cons_append, List.nil_append] at hp3 ⊢
        refine List.Perm.trans ?_ (List.perm_append_comm (l₁ := [_, _]))
        exact (hp3.symm.cons _).cons _)) rfl ?_
    rintro _ _ ⟨h4, ⟨bb, rfl, hpost⟩, rfl⟩
    refine v0 (S0.not rfl) rfl <| vE <| ?_  -- cond
    rcases hpost with ⟨rfl, hJ2⟩ | ⟨rfl, hJ2⟩
    skip
    · skip
      refine WP.condFh rfl (rfl) ?_
      refine WP.skip <| ?_  -- roundend
      have hnd : (xs ++ [y]).Nodup := List.nodup_append.2 ⟨hn, by simp, fun a ha b hb e => by simp at hb; subst hb; subst e; exact hyn (List.mem_map.2 ⟨_, ha, rfl⟩)⟩
      have hsb : ∀ x ∈ xs ++ [y], x ∈ L := fun x hx => (List.mem_append.1 hx).elim (hsub x) fun h => by simp at h; subst h; exact hy
      have hle : (xs ++ [y]).length ≤ L.length := hnd.length_le_of_subset hsb
      have hpm : (h4 ++ ([(b5, Obj.mapIter (some m) ck ⟨xs.map (·.2.2) ++ [y.2.2]⟩ ck)] :: [(bx, cel [.map (some m)] 52)] :: [] : Hp)).flatten.Perm (([(b5, Obj.mapIter (some m) ck ⟨(xs ++ [y]).map (·.2.2)⟩ ck)] :: [(bx, cel [.map (some m)] 52)] :: h4 : Hp).flatten ++ ([] : Hp).flatten) := by
        simp only [List.flatten_append, List.flatten_cons, List.flatten_nil, List.append_nil, List.cons_append, List.nil_append, List.map_append, List.map_cons, List.map_nil]
        exact List.perm_append_comm (l₂ := [_, _])
      exact ⟨(xs ++ [y], h4), (by first | exact ⟨hnd, hsb, hJ2⟩ | (dsimp only; exact ⟨hnd, hsb, hJ2⟩)), (by simp at hle ⊢; omega), ⟨⟨rfl, rfl, rfl, trivial⟩, rfl, rfl⟩, ⟨[], hpm⟩⟩
    · skip
      refine WP.condTh rfl (rfl) ?_
      refine WP.ret <| ?_  -- ret
      refine Leaves.drop (h' := [(bx, cel [.map (some m)] 52)] :: h4) (k := [[(b5, .mapIter (some m) ck ⟨xs.map (·.2.2) ++ [y.2.2]⟩ ck)]]) ?_ ?_
      · simp only [List.flatten_append, List.flatten_cons, List.flatten_nil, List.append_nil, List.cons_append, List.nil_append]
        refine (List.perm_append_comm (l₂ := [_, _])).trans ?_
        exact (List.Perm.swap _ _ _).trans ((List.perm_append_singleton _ _).symm.cons _)
      refine r0 rfl ?_
      exact ⟨xs ++ [y], h4, rfl, .inr hJ2⟩

theorem keys_spec (m : Nat) : FN Tryd.prog 28 [.map (some m)] [] (fun v h => ∃ bx, v = .func (.func 49) ⟨[]⟩ ⟨[.pointer (some ⟨bx, 0, none⟩)]⟩ ∧ h = [[(bx, cel [.map (some m)] 52)]]) := by
  refine FN.intro 4 [(0, .map (some m))] Tryd.func28 rfl (enters Tryd.func28 (by kernel_rfl) rfl) Tryd.ntmps28 rfl rfl ?_
  refine WP.seq <| WP.region <| vn (S1.box rfl rfl) rfl fun b1 => v0 (S0.assign rfl) rfl <| vE <| WP.seq <| WP.region <| v0 (S0.makeFunc rfl rfl) rfl <| v0 (S0.assign rfl) rfl <| vE <| WP.ret <| ?_  -- ret
  refine r1 rfl rfl ?_
  exact ⟨_, rfl, rfl⟩
end Go.Proofs.YtgcclpfpnfmjcaaDoor
