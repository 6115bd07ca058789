import Derived.Test.YtgcclpfpnfmjcaaDoorKeys
import Derived.Test.YtgcclpfpnfmjcaaDoorShelf
namespace Go.Proofs.YtgcclpfpnfmjcaaDoor
open Go

/-! the keys of a map, gathered and sorted -/
theorem appendSeq_keys {m bx : Nat} {L : ML Int} {ck : Nat} {cm : List Blk} [hm : HasC cm m (mapO (Value.int .i64) L ck)] (hw : WfM L ck) (hl : L.length ≤ 1000000) :
    FN Tryd.prog 58 [.slice none 0 0, .func (.func 49) ⟨[]⟩ ⟨[.pointer (some ⟨bx, 0, none⟩)]⟩] [[(bx, cel [.map (some m)] 52)], cm]
      (fun v h => ∃ (xs : ML Int) (row : List Blk), xs.Perm L ∧ IsSl 3 1 v (ints (xs.map (·.1))) row ∧ h = [row, cm]) := by
  refine FN.intro 13 [(0, .slice none 0 0), (1, .func (.func 49) ⟨[]⟩ ⟨[.pointer (some ⟨bx, 0, none⟩)]⟩)] Tryd.func58 rfl (enters Tryd.func58 (by kernel_rfl) rfl) Tryd.ntmps58 rfl rfl ?_
  refine WP.seq <| WP.region <| vn (S1.box rfl rfl) rfl fun b2 => v0 (S0.assign rfl) rfl <| vE <| WP.seq <| WP.seq <| WP.region <| v0 (S0.move rfl) rfl <| vE <| WP.block <| ?_  -- Code.rangeFunc
  refine WP.rangeSup (keys_iter (L := L) (ck := ck) hw) rfl (take1 (atS at0) take0) rfl (fun _ => rfl) ((fun pre h => pre.Nodup ∧ (∀ x ∈ pre, x ∈ L) ∧ ∃ v row, IsSl 3 1 v (ints (pre.map (·.1))) row ∧ h = [(b2, cel [v] 54)] :: row :: cm :: [])) ((fun _ _ _ => False)) ?_ ?_ ?_ ?_ ?_
  · rintro pre h ⟨-, -, v, row, -, rfl⟩
    exact Sup.has
  · exact ⟨_, ⟨by simp, by simp, _, [], .nil, rfl⟩, [], by simp⟩
  · rintro l pre x _ ⟨hnd, hsub, v, row, hsl, rfl⟩ ⟨hxL, hxn⟩
    show WP _ _ _ _ ⟨_, (7, _) :: _, _⟩ _
    have hpl : pre.length ≤ L.length := hnd.length_le_of_subset hsub
    have hnd' : (pre ++ [x]).Nodup := List.nodup_append.2 ⟨hnd, by simp, fun a ha b hb e => by simp at hb; subst hb; subst e; exact hxn ha⟩
    have hsub' : ∀ z ∈ pre ++ [x], z ∈ L := fun z hz => (List.mem_append.1 hz).elim (hsub z) fun h => by simp at h; subst h; exact hxL
    skip
    refine WP.region <| v0 (S0.assign rfl) rfl <| vE <| WP.block <| WP.region <| v0 (S0.load rfl rfl) rfl <| v0 (S0.move rfl) rfl <| vnv (S1.buildSlice rfl (qs := [(0, _)]) rfl rfl) rfl fun b10 => ?_  -- op t11 := append(t8, t10) :[54, 54]
    refine ve (S1.appendL rfl hsl rfl rfl (atS (atS at0)) rfl rfl (by rw [ints_len]; simp; omega)) rfl ?_
    rintro v2 _ ⟨row2, hsl2, rfl⟩
    refine vs (S1.store rfl rfl (by first | rfl | exact IsSl.cv (by assumption))) <| vE <| ?_  -- roundend
    refine ⟨_, ⟨hnd', hsub', v2, row2, ?_, rfl⟩, ?_⟩
    · simpa [ints] using hsl2
    · exact ⟨_, (take1 (atS (atS at0)) (take1 at0 (take1 (atS at0) take0)))⟩
  · rintro D xs h1 hx hS ⟨hnd, hsub, v, row, hsl, rfl⟩ hsup
    refine WP.sup hsup ?_
    refine WP.appc ?_
    skip
    refine WP.seq <| WP.region <| v0 (S0.load rfl rfl) rfl <| v0 (S0.assign rfl) rfl <| vE <| WP.ret <| ?_  -- ret
    refine rm (take1 at0 take0) ?_
    refine Leaves.drop (take1 (atS (atS at0)) (take1 (atS (atS at0)) take0)) ?_
    refine r1 rfl rfl ?_
    exact ⟨xs, row, hS, hsl, rfl⟩
  · rintro D c xs h1 hx hf
    exact hf.elim
theorem sorted_keys {m bx : Nat} {L : ML Int} {ck : Nat} {cm : List Blk} [hm : HasC cm m (mapO (Value.int .i64) L ck)] (hw : WfM L ck) (hl : L.length ≤ 1000000) :
    FN Tryd.prog 27 [.func (.func 49) ⟨[]⟩ ⟨[.pointer (some ⟨bx, 0, none⟩)]⟩] [[(bx, cel [.map (some m)] 52)], cm]
      (fun v h => ∃ (xs : ML Int) (row : List Blk), xs.Perm L ∧ IsSl 3 1 v (ints (sortI (xs.map (·.1)))) row ∧ h = [row, cm]) := by
  have collect : FN Tryd.prog 42 [.func (.func 49) ⟨[]⟩ ⟨[.pointer (some ⟨bx, 0, none⟩)]⟩] [[(bx, cel [.map (some m)] 52)], cm]
      (fun v h => ∃ (xs : ML Int) (row : List Blk), xs.Perm L ∧ IsSl 3 1 v (ints (xs.map (·.1))) row ∧ h = [row, cm]) := by
    refine FN.intro 5 [(0, .func (.func 49) ⟨[]⟩ ⟨[.pointer (some ⟨bx, 0, none⟩)]⟩)] Tryd.func42 rfl (enters Tryd.func42 (by kernel_rfl) rfl) Tryd.ntmps42 rfl rfl ?_
    refine WP.seq <| WP.region <| v0 (S0.assign rfl) rfl <| vE <| WP.seq <| WP.region <| v0 (S0.move rfl) rfl <| ?_  -- op t4 := call F58{slices.AppendSeq[[]int,int]}(Value.slice none 0 0, t3)
    refine vc (S1.callF rfl (appendSeq_keys (ck := ck) hw hl) (take1 at0 (take1 at0 take0))) rfl ?_
    rintro v _ ⟨xs, row, hp, hs, rfl⟩
    refine app ?_
    refine v0 (S0.assign rfl) rfl <| vE <| WP.ret <| ?_  -- ret
    refine r1 rfl rfl ?_
    exact ⟨xs, row, hp, hs, rfl⟩
  refine FN.intro 9 [(0, .func (.func 49) ⟨[]⟩ ⟨[.pointer (some ⟨bx, 0, none⟩)]⟩)] Tryd.func27 rfl (enters Tryd.func27 (by kernel_rfl) rfl) Tryd.ntmps27 rfl rfl ?_
  refine WP.seq <| WP.region <| v0 (S0.assign rfl) rfl <| vE <| WP.seq <| WP.region <| v0 (S0.move rfl) rfl <| ?_  -- op t5 := call F42{slices.Collect[int]}(t4)
  refine vc (S1.callF rfl (collect) (take1 at0 (take1 at0 take0))) rfl ?_
  rintro v _ ⟨xs, row, hp, hs, rfl⟩
  refine app ?_
  refine v0 (S0.assign rfl) rfl <| vE <| WP.seq <| WP.region <| v0 (S0.move rfl) rfl <| ?_  -- op t7 := call F48{slices.Sort[[]int,int]}(t6)
  refine vc (S1.callF rfl (sort_spec (enters Tryd.func48 (by kernel_rfl) rfl) Tryd.slices_Sort_int Tryd.slices_Sort_int_none hs (by have := hp.length_eq; simp; omega)) (take1 at0 take0)) rfl ?_
  rintro _ _ ⟨rfl, row2, hs2, rfl⟩
  refine app ?_
  refine vE <| WP.seq <| WP.region <| v0 (S0.move rfl) rfl <| v0 (S0.assign rfl) rfl <| vE <| WP.ret <| ?_  -- ret
  refine r1 rfl rfl ?_
  exact ⟨xs, row2, hp, hs2, rfl⟩
end Go.Proofs.YtgcclpfpnfmjcaaDoor
