import Derived.Test.YtmnmikcpdhnbnaaTypes
import Derived.Test.YtmnmikcpdhnbnaaBeat0
import Derived.Test.YtmnmikcpdhnbnaaShelf
namespace Go.Proofs.Ytmnmikcpdhnbnaa
open Go

theorem time_spec (now : Int) : FN Try.prog 26 [.int .i64 now] [] (is (.bool (isTime now)) []) := by
  refine FN.intro 9 [(0, .int .i64 now)] Try.func26 rfl (enters Try.func26 (by kernel_rfl) rfl) Try.ntmps26 rfl rfl ?_
  refine WP.seq <| WP.region <| v0 (S0.assign rfl) rfl <| vE <| WP.seq <| WP.region <| v0 (S0.move rfl) rfl <| v0 (S0.cmp rfl rfl rfl) rfl <| v0 (S0.move rfl) rfl <| ?_  -- guard t5 (wants True) at t6 := move t0 [if #2=True]
  first | refine csP (t := 5) rfl (fun h1 => ?_) (fun h1 => ?_) | refine csN (t := 5) rfl (fun h1 => ?_) (fun h1 => ?_) | refine cs (t := 5) rfl (fun h1 => ?_) (fun h1 => ?_)
  · skip
    refine gT rfl <| v0 (S0.move rfl) rfl <| gT rfl <| v0 (S0.cmp rfl rfl rfl) rfl <| v0 (S0.pickT rfl rfl) rfl <| v0 (S0.assign rfl) rfl <| vE <| WP.ret <| ?_  -- ret
    refine r1 rfl rfl ⟨?_, rfl⟩
    simp [isTime, h1]
  · skip
    refine gF rfl rfl <| gF rfl rfl <| v0 (S0.pickF rfl rfl) rfl <| v0 (S0.assign rfl) rfl <| vE <| WP.ret <| ?_  -- ret
    refine r1 rfl rfl ⟨?_, rfl⟩
    simp [isTime, h1]
theorem odd_spec (now : Int) : FN Try.prog 27 [.int .i64 now] [] (is (.bool (!isTime now)) []) := by
  refine FN.intro 9 [(0, .int .i64 now)] Try.func27 rfl (enters Try.func27 (by kernel_rfl) rfl) Try.ntmps27 rfl rfl ?_
  refine WP.seq <| WP.region <| v0 (S0.assign rfl) rfl <| vE <| WP.seq <| WP.region <| v0 (S0.move rfl) rfl <| v0 (S0.cmp rfl rfl rfl) rfl <| v0 (S0.move rfl) rfl <| ?_  -- guard t5 (wants False) at t6 := move t0 [if #2=False]
  first | refine csP (t := 5) rfl (fun h1 => ?_) (fun h1 => ?_) | refine csN (t := 5) rfl (fun h1 => ?_) (fun h1 => ?_) | refine cs (t := 5) rfl (fun h1 => ?_) (fun h1 => ?_)
  · skip
    refine gF rfl rfl <| gF rfl rfl <| v0 (S0.pickT rfl rfl) rfl <| v0 (S0.assign rfl) rfl <| vE <| WP.ret <| ?_  -- ret
    refine r1 rfl rfl ⟨?_, rfl⟩
    refine congrArg Value.bool ?_
    rw [Bool.eq_iff_iff]; simp [isTime]; omega
  · skip
    refine gT rfl <| v0 (S0.move rfl) rfl <| gT rfl <| v0 (S0.cmp rfl rfl rfl) rfl <| v0 (S0.pickF rfl rfl) rfl <| v0 (S0.assign rfl) rfl <| vE <| WP.ret <| ?_  -- ret
    refine r1 rfl rfl ⟨?_, rfl⟩
    refine congrArg Value.bool ?_
    rw [Bool.eq_iff_iff]; simp [isTime]; omega

/-! the keys of a map -/
theorem keys_iter {m bx : Nat} {L : ML Int} {ck : Nat} (hw : WfM L ck) : Iter Try.prog 34 [.pointer (some ⟨bx, 0, none⟩)] [[(bx, cel [.map (some m)] 46)]] [[(m, mapO (Value.int .i64) L ck)]] (fun (x : Int × Value × Nat) => [.int .i64 x.1]) (fun pre x => x ∈ L ∧ x ∉ pre) (fun xs => xs.Perm L) := by
  refine ⟨enters Try.func34 (by kernel_rfl) rfl, fun l J Jx hJ hY h0 hJ0 => ?_⟩
  show FN _ _ _ ([(bx, cel [.map (some m)] 46)] :: h0) _
  obtain ⟨h2, hp2⟩ := hJ [] h0 hJ0
  refine FN.intro 14 [(0, .func (.yield l) #[] #[]), (1, .pointer (some ⟨bx, 0, none⟩))] Try.func34 rfl (enters Try.func34 (by kernel_rfl) rfl) Try.ntmps34 rfl rfl ?_
  refine WP.seq <| WP.region <| v0 (S0.load rfl rfl) rfl <| ?_  -- op t5 := range 46 t4
  refine WO.perm (h' := [(bx, cel [.map (some m)] 46)] :: [(m, mapO (Value.int .i64) L ck)] :: h2) (k := []) (by simpa using hp2) ?_
  refine vn (S1.range rfl) rfl fun b5 => ?_
  refine vE <| WP.block <| ?_  -- Code.loop
  refine WP.loop (fun s : ML Int × Hp => s.1.Nodup ∧ (∀ x ∈ s.1, x ∈ L) ∧ J s.1 s.2) (fun s : ML Int × Hp => [(0, .func (.yield l) #[] #[]), (1, .pointer (some ⟨bx, 0, none⟩)), (5, .pointer (some ⟨b5, 0, none⟩))]) (fun s : ML Int × Hp => [(b5, .mapIter (some m) ck ⟨s.1.map (·.2.2)⟩ ck)] :: [(bx, cel [.map (some m)] 46)] :: s.2) (fun s : ML Int × Hp => L.length - s.1.length) (([], h0)) (⟨by simp, by simp, hJ0⟩) ⟨rfl, rfl, rfl, trivial⟩ ⟨[], by simpa using hp2.symm⟩ (fun s hinv => ?_) 
  obtain ⟨xs, h⟩ := s
  obtain ⟨hn, hsub, hJs⟩ := hinv
  obtain ⟨h3, hp3⟩ := hJ xs h hJs
  dsimp only at *
  refine WP.seq <| WP.region <| ?_  -- op t6 := next t5 false
  refine WO.perm (h' := [(b5, .mapIter (some m) ck ⟨xs.map (·.2.2)⟩ ck)] :: [(bx, cel [.map (some m)] 46)] :: [(m, mapO (Value.int .i64) L ck)] :: h3) (k := []) (by simpa using hp3) ?_
  refine ve (S1.next hw rfl) rfl ?_
  rintro _ _ (⟨rfl, rfl, hall⟩ | ⟨y, hy, hyn, rfl, rfl⟩)
  skip
  · skip
    refine v0 (S0.extract rfl rfl) rfl <| vE <| WP.seq <| ?_  -- cond
    refine WP.condFh rfl (rfl) ?_
    refine WP.exit <| ?_  -- fnend
    refine Leaves.drop (h' := [(bx, cel [.map (some m)] 46)] :: h) (k := [[(b5, .mapIter (some m) ck ⟨xs.map (·.2.2)⟩ ck)]]) ?_ ?_
    · simp only [List.flatten_cons, List.flatten_nil, List.append_nil, List.cons_append, List.nil_append] at hp3 ⊢
      exact ((List.Perm.swap _ _ _).trans (((hp3.symm.cons _).trans (List.perm_append_singleton _ _).symm).cons _))
    refine r0 rfl ?_
    exact ⟨xs, h, rfl, .inl ⟨perm_of_all hw hn hsub hall, hJs⟩⟩
  · skip
    refine v0 (S0.extract rfl rfl) rfl <| vE <| WP.seq <| ?_  -- cond
    refine WP.condTh rfl (rfl) ?_
    refine WP.skip <| WP.block <| WP.seq <| WP.region <| ?_  -- op t8 := entry t5
    refine v0 (S0.entry (pre := xs.map (·.2.2)) hw hy (hi := by first | infer_instance | (simp; infer_instance)) rfl) rfl <| ?_
    refine v0 (S0.extract rfl rfl) rfl <| v0 (S0.assign rfl) rfl <| vE <| WP.seq <| WP.region <| v0 (S0.move rfl) rfl <| v0 (S0.move rfl) rfl <| ?_  -- op t12 := call t10(t11)
    refine ve (S1.yield (hr := [(b5, .mapIter (some m) ck ⟨xs.map (·.2.2) ++ [y.2.2]⟩ ck)] :: [(bx, cel [.map (some m)] 46)] :: []) rfl rfl (hY xs y h hJs ⟨hy, fun hm => hyn (List.mem_map.2 ⟨y, hm, rfl⟩)⟩) (by
        simp only [List.flatten_cons, List.flatten_nil, List.append_nil, List.cons_append, List.nil_append] at hp3 ⊢
        refine List.Perm.trans ?_ (List.perm_append_comm (l₁ := [_, _]))
        exact (hp3.symm.cons _).cons _)) rfl ?_
    rintro _ _ ⟨h4, ⟨bb, rfl, hpost⟩, rfl⟩
    refine v0 (S0.not rfl) rfl <| vE <| ?_  -- cond
    rcases hpost with ⟨rfl, hJ2⟩ | ⟨rfl, hJ2⟩
    skip
    · skip
      refine WP.condFh rfl (rfl) ?_
      refine WP.skip <| ?_  -- roundend
      have hnd : (xs ++ [y]).Nodup := List.nodup_append.2 ⟨hn, by simp, fun a ha b hb e => by simp at hb; subst hb; subst e; exact hyn (List.mem_map.2 ⟨_, ha, rfl⟩)⟩
      have hsb : ∀ x ∈ xs ++ [y], x ∈ L := fun x hx => (List.mem_append.1 hx).elim (hsub x) fun h => by simp at h; subst h; exact hy
      have hle : (xs ++ [y]).length ≤ L.length := hnd.length_le_of_subset hsb
      have hpm : (h4 ++ ([(b5, Obj.mapIter (some m) ck ⟨xs.map (·.2.2) ++ [y.2.2]⟩ ck)] :: [(bx, cel [.map (some m)] 46)] :: [] : Hp)).flatten.Perm (([(b5, Obj.mapIter (some m) ck ⟨(xs ++ [y]).map (·.2.2)⟩ ck)] :: [(bx, cel [.map (some m)] 46)] :: h4 : Hp).flatten ++ ([] : Hp).flatten) := by
        simp only [List.flatten_append, List.flatten_cons, List.flatten_nil, List.append_nil, List.cons_append, List.nil_append, List.map_append, List.map_cons, List.map_nil]
        exact List.perm_append_comm (l₂ := [_, _])
      exact ⟨(xs ++ [y], h4), (by first | exact ⟨hnd, hsb, hJ2⟩ | (dsimp only; exact ⟨hnd, hsb, hJ2⟩)), (by simp at hle ⊢; omega), ⟨⟨rfl, rfl, rfl, trivial⟩, rfl, rfl⟩, ⟨[], hpm⟩⟩
    · skip
      refine WP.condTh rfl (rfl) ?_
      refine WP.ret <| ?_  -- ret
      refine Leaves.drop (h' := [(bx, cel [.map (some m)] 46)] :: h4) (k := [[(b5, .mapIter (some m) ck ⟨xs.map (·.2.2) ++ [y.2.2]⟩ ck)]]) ?_ ?_
      · simp only [List.flatten_append, List.flatten_cons, List.flatten_nil, List.append_nil, List.cons_append, List.nil_append]
        refine (List.perm_append_comm (l₂ := [_, _])).trans ?_
        exact (List.Perm.swap _ _ _).trans ((List.perm_append_singleton _ _).symm.cons _)
      refine r0 rfl ?_
      exact ⟨xs ++ [y], h4, rfl, .inr hJ2⟩

/-! the closures that say who is late, and who is there -/
abbrev beatB (b : Nat) (every limit last : Int) (m : Nat) (L : ML Int) (ck : Nat) : List Blk := [(b, cel [.int .i64 every, .int .i64 limit, .map (some m), .int .i64 last] 48), (m, mapO (Value.int .i64) L ck)]

abbrev lateC (b bn bb : Nat) (now : Int) : List Blk := [(bn, cel [.int .i64 now] 3), (bb, cel [.pointer (some ⟨b, 0, none⟩)] 23)]
theorem such_late {b m bn bb : Nat} {every limit last now : Int} {L : ML Int} {ck : Nat} (t : Int) (ht : 0 ≤ t ∧ t ≤ 1099511627776) (hn : 0 ≤ now ∧ now ≤ 1099511627776) :
    FN Try.prog 30 [.int .i64 t, .pointer (some ⟨bn, 0, none⟩), .pointer (some ⟨bb, 0, none⟩)] [lateC b bn bb now, beatB b every limit last m L ck]
      (is (.bool (decide (limit ≤ now - t))) [lateC b bn bb now, beatB b every limit last m L ck]) := by
  refine FN.intro 13 [(0, .int .i64 t), (1, .pointer (some ⟨bn, 0, none⟩)), (2, .pointer (some ⟨bb, 0, none⟩))] Try.func30 rfl (enters Try.func30 (by kernel_rfl) rfl) Try.ntmps30 rfl rfl ?_
  refine WP.seq <| WP.region <| v0 (S0.assign rfl) rfl <| vE <| WP.seq <| WP.drawP [0, 1, 2, 3, 4, 5, 6, 7, 8] mixed (by kernel_rfl) (by kernel_rfl) (by kernel_rfl) (take1 at0 (take1 at0 take0)) <| w0 rfl rfl rfl (S0.load rfl rfl) rfl <| w0 rfl rfl rfl (S0.move rfl) rfl <| w0 rfl rfl rfl (S0.ari rfl rfl rfl (wrap_i64 (by omega))) rfl <| w0 rfl rfl rfl (S0.load rfl rfl) rfl <| w0 rfl rfl rfl (S0.nilCheck rfl) rfl <| w0 rfl rfl rfl (S0.fieldAddr rfl) rfl <| w0 rfl rfl rfl (S0.load rfl rfl) rfl <| w0 rfl rfl rfl (S0.cmp rfl rfl rfl) rfl <| w0 rfl rfl rfl (S0.assign rfl) rfl <| wE <| WP.ret <| ?_  -- ret
  refine r1 rfl rfl ⟨?_, rfl⟩
  rfl
theorem such_all {b m : Nat} {every limit last : Int} {L : ML Int} {ck : Nat} (t : Int) : FN Try.prog 31 [.int .i64 t] [[], beatB b every limit last m L ck] (is (.bool true) [[], beatB b every limit last m L ck]) := by
  refine FN.intro 3 [(0, .int .i64 t)] Try.func31 rfl (enters Try.func31 (by kernel_rfl) rfl) Try.ntmps31 rfl rfl ?_
  refine WP.seq <| WP.region <| v0 (S0.assign rfl) rfl <| vE <| WP.seq <| WP.region <| v0 (S0.assign rfl) rfl <| vE <| WP.ret <| ?_  -- ret
  refine r1 rfl rfl ⟨?_, rfl⟩
  rfl
theorem keys_spec (m : Nat) : FN Try.prog 32 [.map (some m)] [] (fun v h => ∃ bx, v = .func (.func 34) ⟨[]⟩ ⟨[.pointer (some ⟨bx, 0, none⟩)]⟩ ∧ h = [[(bx, cel [.map (some m)] 46)]]) := by
  refine FN.intro 4 [(0, .map (some m))] Try.func32 rfl (enters Try.func32 (by kernel_rfl) rfl) Try.ntmps32 rfl rfl ?_
  refine WP.seq <| WP.region <| vn (S1.box rfl rfl) rfl fun b1 => v0 (S0.assign rfl) rfl <| vE <| WP.seq <| WP.region <| v0 (S0.makeFunc rfl rfl) rfl <| v0 (S0.assign rfl) rfl <| vE <| WP.ret <| ?_  -- ret
  refine r1 rfl rfl ?_
  exact ⟨_, rfl, rfl⟩
theorem RepB.len {R : BM} {L : ML Int} {ck : Nat} (h : RepB R L ck) (ho : OkB R) : L.length = R.length := by
  have h1 : (L.map (·.1)).Perm (R.map (·.1)) := (List.perm_ext_iff_of_nodup h.wf.keys ho.keys).2 fun k => by
    have h2 := h.get k
    have h3 := get_none_iff (L := L) (k := k)
    have h4 := gB_none (R := R) (k := k)
    rw [h2] at h3
    cases hg : gB R k <;> simp [hg] at h3 h4 <;> simp [h3, h4]
  simpa using h1.length_eq

theorem such_spec {b m g : Nat} {every limit last : Int} {L : ML Int} {ck : Nat} {R : BM} {caps : List Value} {hc : List Blk} (hr : RepB R L ck) (ho : OkB R) (hlen : R.length ≤ 1000000) (q : Int → Bool)
    (H : ∀ t, 0 ≤ t ∧ t ≤ 1099511627776 → FN Try.prog g (.int .i64 t :: caps) [hc, beatB b every limit last m L ck] (is (.bool (q t)) [hc, beatB b every limit last m L ck])) :
    FN Try.prog 29 [.pointer (some ⟨b, 0, none⟩), .func (.func g) ⟨[]⟩ ⟨caps⟩] [hc, beatB b every limit last m L ck]
      (fun v h => ∃ row, IsSl 3 1 v (ints ((R.filter fun x => q x.2).map (·.1))) row ∧ h = [row, hc, beatB b every limit last m L ck]) := by
  have hL := hr.len ho
  refine FN.intro 28 [(0, .pointer (some ⟨b, 0, none⟩)), (1, .func (.func g) ⟨[]⟩ ⟨caps⟩)] Try.func29 rfl (enters Try.func29 (by kernel_rfl) rfl) Try.ntmps29 rfl rfl ?_
  refine WP.seq <| WP.region <| vn (S1.box rfl rfl) rfl fun b2 => vn (S1.box rfl rfl) rfl fun b3 => v0 (S0.assign rfl) rfl <| vE <| WP.seq <| WP.region <| vn (S1.alloc rfl) rfl fun b5 => vE <| WP.seq <| WP.seq <| WP.region <| v0 (S0.load rfl rfl) rfl <| v0 (S0.nilCheck rfl) rfl <| v0 (S0.fieldAddr rfl) rfl <| v0 (S0.load rfl rfl) rfl <| ?_  -- op t11 := call F32{maps.Keys[map[int]int,int,int]}(t10)
  refine vc (S1.callF rfl (keys_spec m) take0) rfl ?_
  rintro _ _ ⟨bx, rfl, rfl⟩
  refine app ?_
  refine vE <| WP.block <| ?_  -- Code.rangeFunc
  let outs : ML Int → List Int := fun pre => ((pre.filter fun x => match gB R x.1 with | some t => q t | none => false).map (·.1))
  refine WP.rangeSup (keys_iter hr.wf) rfl (take1 at0 take0) rfl (fun _ => rfl) ((fun pre h => pre.Nodup ∧ (∀ x ∈ pre, x ∈ L) ∧ ∃ v row, IsSl 3 1 v (ints (outs pre)) row ∧ h = [(b5, cel [v] 37)] :: row :: [(b3, cel [.func (.func g) ⟨[]⟩ ⟨caps⟩] 33)] :: [(b2, cel [.pointer (some ⟨b, 0, none⟩)] 23)] :: hc :: beatB b every limit last m L ck :: [])) ((fun _ _ _ => False)) ?_ ?_ ?_ ?_ ?_
  · rintro pre h ⟨-, -, v, row, -, rfl⟩
    exact Sup.has
  · exact ⟨_, ⟨by simp, by simp, _, [], .nil, rfl⟩, [], by simp⟩
  · rintro l pre x _ ⟨hnd, hsub, v, row, hsl, rfl⟩ ⟨hxL, hxn⟩
    show WP _ _ _ _ ⟨_, (12, _) :: _, _⟩ _
    skip
    obtain ⟨t, ht⟩ : ∃ t, gB R x.1 = some t := by
      have h1 := get_of_mem hr.wf.keys (k := x.1) (v := x.2.1) (b := x.2.2) hxL
      rw [hr.get] at h1
      cases hg : gB R x.1 with
      | none => rw [hg] at h1; cases h1
      | some t => exact ⟨t, rfl⟩
    have hget : getM L x.1 = some (.int .i64 t) := by rw [hr.get, ht]; rfl
    have htm := ho.tm _ (gB_mem ht)
    refine WP.region <| v0 (S0.assign rfl) rfl <| vE <| WP.block <| WP.seq <| WP.drawP [0, 1, 2, 3, 4, 5, 6, 7] mixed (by kernel_rfl) (by kernel_rfl) (by kernel_rfl) (take1 (atS (atS (atS at0))) (take1 (atS (atS at0)) (take1 (atS (atS (atS at0))) take0))) <| w0 rfl rfl rfl (S0.load rfl rfl) rfl <| w0 rfl rfl rfl (S0.load rfl rfl) rfl <| w0 rfl rfl rfl (S0.nilCheck rfl) rfl <| w0 rfl rfl rfl (S0.fieldAddr rfl) rfl <| w0 rfl rfl rfl (S0.load rfl rfl) rfl <| w0 rfl rfl rfl (S0.move rfl) rfl <| ?_  -- op t19 := lookup 46 t17 t18 false
    refine w0 rfl rfl rfl (S0.lookupS rfl rfl hget) rfl <| ?_
    refine wcS rfl rfl rfl (S1.callC rfl rfl rfl (H t htm.2) (take1 (atS (atS (atS (atS (atS at0))))) (take1 (atS (atS at0)) take0))) rfl (take1 (atS (atS at0)) (take1 (atS (atS at0)) (take1 (atS at0) take0))) ?_
    refine wE <| ?_  -- cond
    have hout : outs (pre ++ [x]) = outs pre ++ (if q t then [x.1] else []) := by
      simp only [outs, List.filter_append, List.map_append]
      cases h : q t <;> simp [ht, h]
    have hpl : (outs pre).length ≤ 1000000 := by
      have h1 : (outs pre).length ≤ pre.length := by simp only [outs, List.length_map]; exact List.length_filter_le _ _
      have h2 : pre.length ≤ L.length := hnd.length_le_of_subset hsub
      omega
    have hnd' : (pre ++ [x]).Nodup := List.nodup_append.2 ⟨hnd, by simp, fun a ha b hb e => by simp at hb; subst hb; subst e; exact hxn ha⟩
    have hsub' : ∀ z ∈ pre ++ [x], z ∈ L := fun z hz => (List.mem_append.1 hz).elim (hsub z) fun h => by simp at h; subst h; exact hxL
    first | refine WP.condP rfl (fun hq => ?_) (fun hq => ?_) | refine WP.condN rfl (fun hq => ?_) (fun hq => ?_) | refine WP.cond rfl (fun hq => ?_) (fun hq => ?_)
    · skip
      refine WP.region <| v0 (S0.load rfl rfl) rfl <| v0 (S0.move rfl) rfl <| vnv (S1.buildSlice rfl (qs := [(0, _)]) rfl rfl) rfl fun b23 => ?_  -- op t24 := append(t21, t23) :[37, 37]
      refine ve (S1.appendL rfl hsl rfl rfl (atS (atS (atS (atS (atS (atS at0)))))) rfl rfl (by rw [ints_len]; simp; omega)) rfl ?_
      rintro v2 _ ⟨row2, hsl2, rfl⟩
      refine vs (S1.store rfl rfl (by first | rfl | exact IsSl.cv (by assumption))) <| vE <| ?_  -- roundend
      refine ⟨_, ⟨hnd', hsub', v2, row2, ?_, rfl⟩, ?_⟩
      · rw [hout, hq]; simpa [ints] using hsl2
      · exact ⟨_, (take1 (atS (atS (atS (atS (atS (atS at0)))))) (take1 at0 (take1 (atS (atS at0)) (take1 (atS at0) (take1 (atS (atS at0)) (take1 (atS at0) take0))))))⟩
    · skip
      refine WP.skip <| ?_  -- roundend
      refine ⟨_, ⟨hnd', hsub', v, row, ?_, rfl⟩, ?_⟩
      · rw [hout, hq]; simpa using hsl
      · exact ⟨_, (take1 (atS (atS (atS (atS at0)))) (take1 (atS (atS (atS (atS at0)))) (take1 (atS at0) (take1 at0 (take1 (atS at0) (take1 at0 take0))))))⟩
  · rintro D xs h1 hx hS ⟨hnd, hsub, v, row, hsl, rfl⟩ hsup
    refine WP.sup hsup ?_
    refine WP.appc ?_
    skip
    refine WP.seq <| WP.region <| v0 (S0.load rfl rfl) rfl <| ?_  -- op t26 := call F33{slices.Sort[[]int,int]}(t25)
    refine vc (S1.callF rfl (sort_spec (enters Try.func33 (by kernel_rfl) rfl) Try.slices_Sort_int Try.slices_Sort_int_none hsl (by
        have h1 : (outs xs).length ≤ xs.length := by simp only [outs, List.length_map]; exact List.length_filter_le _ _
        have h2 : xs.length ≤ L.length := hnd.length_le_of_subset hsub
        omega)) (take1 (atS (atS (atS at0))) take0)) rfl ?_
    rintro _ _ ⟨rfl, row2, hsl2, rfl⟩
    refine app ?_
    refine vE <| WP.seq <| WP.region <| v0 (S0.load rfl rfl) rfl <| v0 (S0.assign rfl) rfl <| vE <| WP.ret <| ?_  -- ret
    refine rm (take1 (atS at0) take0) ?_
    refine Leaves.drop (take1 at0 (take1 (atS (atS (atS (atS at0)))) (take1 (atS (atS (atS (atS at0)))) take0))) ?_
    refine r1 rfl rfl ?_
    refine ⟨row2, ?_, rfl⟩
    have := such_eq hr ho q hS
    rw [← this]; exact hsl2
  · rintro D c xs h1 hx hf
    exact hf.elim

/-! the functions of package beat -/
def IsB (b : Nat) (every limit last : Int) (R : BM) (c : List Blk) : Prop := ∃ m L ck, RepB R L ck ∧ c = beatB b every limit last m L ck

theorem new_spec (every limit : Int) : FN Try.prog 8 [.int .i64 every, .int .i64 limit] []
    (fun v h => (¬ (1 ≤ every ∧ every ≤ limit ∧ limit ≤ 1000) ∧ v = .tuple ⟨[.pointer none, .int .i64 1]⟩ ∧ h = []) ∨ ((1 ≤ every ∧ every ≤ limit ∧ limit ≤ 1000) ∧ ∃ b c, v = .tuple ⟨[.pointer (some ⟨b, 0, none⟩), .int .i64 0]⟩ ∧ h = [c] ∧ IsB b every limit (-1) [] c)) := by
  have bad : ∀ (f : Fr), ¬ (1 ≤ every ∧ every ≤ limit ∧ limit ≤ 1000) → f.d = [] → look 4 f.s = some (.pointer none) → look 5 f.s = some (.int .i64 1) → Leaves Try.prog Try.f8 (fun v h => (¬ (1 ≤ every ∧ every ≤ limit ∧ limit ≤ 1000) ∧ v = .tuple ⟨[.pointer none, .int .i64 1]⟩ ∧ h = []) ∨ ((1 ≤ every ∧ every ≤ limit ∧ limit ≤ 1000) ∧ ∃ b c, v = .tuple ⟨[.pointer (some ⟨b, 0, none⟩), .int .i64 0]⟩ ∧ h = [c] ∧ IsB b every limit (-1) [] c)) [] f [] :=
    fun f h1 h2 h3 h4 => r2 rfl h3 h4 (.inl ⟨h1, rfl, rfl⟩)
  refine FN.intro 22 [(0, .int .i64 every), (1, .int .i64 limit)] Try.func8 rfl (enters Try.func8 (by kernel_rfl) rfl) Try.ntmps8 rfl rfl ?_
  refine WP.seq <| WP.region <| v0 (S0.assign rfl) rfl <| v0 (S0.assign rfl) rfl <| vE <| WP.seq <| WP.seq <| WP.region <| v0 (S0.move rfl) rfl <| v0 (S0.cmp rfl rfl rfl) rfl <| v0 (S0.move rfl) rfl <| ?_  -- guard t8 (wants False) at t9 := move t0 [if #2=False]
  first | refine csP (t := 8) rfl (fun h1 => ?_) (fun h1 => ?_) | refine csN (t := 8) rfl (fun h1 => ?_) (fun h1 => ?_) | refine cs (t := 8) rfl (fun h1 => ?_) (fun h1 => ?_)
  · skip
    refine gF rfl rfl <| gF rfl rfl <| gF rfl rfl <| v0 (S0.pickT rfl rfl) rfl <| v0 (S0.move rfl) rfl <| gF rfl rfl <| gF rfl rfl <| v0 (S0.pickT rfl rfl) rfl <| vE <| WP.condT rfl <| WP.seq <| WP.region <| v0 (S0.assign rfl) rfl <| v0 (S0.assign rfl) rfl <| vE <| WP.ret <| ?_  -- ret
    exact bad _ (by omega) rfl rfl rfl
  · skip
    refine gT rfl <| v0 (S0.move rfl) rfl <| gT rfl <| v0 (S0.move rfl) rfl <| gT rfl <| v0 (S0.cmp rfl rfl rfl) rfl <| v0 (S0.pickF rfl rfl) rfl <| v0 (S0.move rfl) rfl <| ?_  -- guard t13 (wants False) at t14 := move t1 [if #7=False]
    first | refine csP (t := 13) rfl (fun h2 => ?_) (fun h2 => ?_) | refine csN (t := 13) rfl (fun h2 => ?_) (fun h2 => ?_) | refine cs (t := 13) rfl (fun h2 => ?_) (fun h2 => ?_)
    · skip
      refine gF rfl rfl <| gF rfl rfl <| v0 (S0.pickT rfl rfl) rfl <| vE <| WP.condT rfl <| WP.seq <| WP.region <| v0 (S0.assign rfl) rfl <| v0 (S0.assign rfl) rfl <| vE <| WP.ret <| ?_  -- ret
      exact bad _ (by omega) rfl rfl rfl
    · skip
      refine gT rfl <| v0 (S0.move rfl) rfl <| gT rfl <| v0 (S0.cmp rfl rfl rfl) rfl <| v0 (S0.pickF rfl rfl) rfl <| vE <| ?_  -- cond
      first | refine WP.condP rfl (fun h3 => ?_) (fun h3 => ?_) | refine WP.condN rfl (fun h3 => ?_) (fun h3 => ?_) | refine WP.cond rfl (fun h3 => ?_) (fun h3 => ?_)
      · skip
        refine WP.seq <| WP.region <| v0 (S0.assign rfl) rfl <| v0 (S0.assign rfl) rfl <| vE <| WP.ret <| ?_  -- ret
        exact bad _ (by omega) rfl rfl rfl
      · skip
        refine WP.skip <| WP.seq <| WP.region <| v0 (S0.move rfl) rfl <| v0 (S0.move rfl) rfl <| vnv (S1.makeMap) rfl fun b19 => v0 (S0.build rfl (qs := [(0, _), (1, _), (2, _), (3, _)]) rfl) rfl <| vn (S1.box rfl rfl) rfl fun b21 => v0 (S0.assign rfl) rfl <| v0 (S0.assign rfl) rfl <| vE <| WP.ret <| ?_  -- ret
        refine Leaves.drop (h' := [beatB b21 every limit (-1) b19 [] 0]) (k := []) (List.Perm.of_eq (by first | rfl | simp)) ?_
        refine r2 rfl rfl rfl ?_
        exact .inr ⟨by omega, _, _, rfl, rfl, _, [], 0, .nil, rfl⟩
end Go.Proofs.Ytmnmikcpdhnbnaa
