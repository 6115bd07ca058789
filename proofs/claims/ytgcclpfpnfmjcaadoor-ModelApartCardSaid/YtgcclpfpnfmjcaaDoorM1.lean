import Derived.Test.YtgcclpfpnfmjcaaDoorEv
import Derived.Test.YtgcclpfpnfmjcaaDoorMo0
import Derived.Test.YtgcclpfpnfmjcaaDoorSorted
namespace Go.Proofs.YtgcclpfpnfmjcaaDoor
open Go

theorem take_snoc {α : Type} {l : List α} {i : Nat} {x : α} (h : l[i]? = some x) : l.take (i + 1) = l.take i ++ [x] := by rw [List.take_add_one, h]; rfl
theorem all_snoc {α : Type} {l : List α} {i : Nat} {x : α} {p : α → Prop} (h : ∀ e ∈ l.take i, p e) (hx : l[i]? = some x) (hp : p x) : ∀ e ∈ l.take (i + 1), p e := by
  rw [take_snoc hx]
  intro y hy
  rcases List.mem_append.1 hy with hy | hy
  · exact h y hy
  · simp at hy; rw [hy]; exact hp
theorem mem_of_at {α : Type} {l : List α} {i : Nat} {x : α} (h : l[i]? = some x) : x ∈ l := List.mem_of_getElem? h

-- auto
-- auto
theorem order_spec {v : Value} {l : List Ev} {c : List Blk} (hr : Rd 5 evB v l c) (hw : ∀ e ∈ l, EvOk e) (hl : l.length ≤ 1000) : FN Tryd.prog 11 [v] [c] (is (.bool (ordB l)) [c]) := by
  obtain ⟨a, cap, rfl, hcap, hr⟩ := hr
  refine FN.intro 37 [(0, .slice a l.length cap)] Tryd.func11 rfl (enters Tryd.func11 (by kernel_rfl) rfl) Tryd.ntmps11 rfl rfl ?_
  refine WP.seq <| WP.region <| v0 (S0.assign rfl) rfl <| vE <| WP.seq <| WP.region <| vnv (S1.makeMap) rfl fun b6 => v0 (S0.assign rfl) rfl <| vE <| WP.seq <| WP.seq <| WP.region <| v0 (S0.move rfl) rfl <| v0 (S0.lenSl rfl) rfl <| v0 (S0.move rfl) rfl <| vE <| WP.block <| ?_  -- Code.loop
  refine WP.loop (fun st : Nat × ML Int × Nat => st.1 ≤ l.length ∧ RepF (lastO (l.take st.1)) st.2.1 st.2.2 ∧ BdO (l.take st.1) ∧ ordB l = ordF (l.take st.1) (l.drop st.1)) (fun st : Nat × ML Int × Nat => [(3, .map (some b6)), (7, .slice a l.length cap), (8, .int .i64 (l.length : Int)), (9, .int .i64 (st.1 : Int))]) (fun st : Nat × ML Int × Nat => [[(b6, mapO (Value.int .i64) st.2.1 st.2.2)], c]) (fun st : Nat × ML Int × Nat => l.length - st.1) ((0, [], 0)) (⟨Nat.zero_le _, .nil, fun k s h => by simp [lastO] at h, rfl⟩) ⟨rfl, rfl, rfl, rfl, trivial⟩ ⟨_, (take1 at0 (take1 at0 take0))⟩ (fun st hinv => ?_) 
  obtain ⟨i, L, ck⟩ := st
  obtain ⟨hi, hrep, hbd, hord⟩ := hinv
  dsimp only at hi hrep hbd hord ⊢
  refine WP.seq <| WP.region <| v0 (S0.cmp rfl rfl rfl) rfl <| vE <| WP.seq <| ?_  -- cond
  first | refine WP.condP rfl (fun h1 => ?_) (fun h1 => ?_) | refine WP.condN rfl (fun h1 => ?_) (fun h1 => ?_) | refine WP.cond rfl (fun h1 => ?_) (fun h1 => ?_)
  · skip
    have hlt : i < l.length := by omega
    rcases hr with e | ⟨b, o, GL, U, fz, rfl, hm, hel⟩
    · rw [e] at hlt; simp at hlt
    have : HasC c b (.cells ⟨GL⟩ U fz) := ⟨hm⟩
    have hx : l[i]? = some l[i] := by simp [hlt]
    have hok := hw _ (List.getElem_mem hlt)
    rw [drop_cons hx] at hord
    generalize l[i] = e at hx hok hord
    have hel := hel i e hx
    have ht := hok.t
    have hg := hrep.getD e.o
    have hgb := hbd.getD e.o
    simp only [ordF] at hord
    refine WP.skip <| WP.seq <| WP.block <| WP.seq <| WP.region <| ?_  -- op t11 := indexAddr 22 t7 t9
    refine v0 (S0.indexO rfl rfl hlt) rfl <| ?_
    refine v0 (S0.loadA (vs := evB e) rfl hel rfl) rfl <| ?_
    refine vn (S1.alloc) rfl fun b5 => vs (S1.storeA rfl rfl rfl) <| vE <| WP.seq <| WP.seq <| WP.region <| v0 (S0.loadAL rfl) rfl <| vcd (S1.callF rfl (evRight_spec (by omega)) take0) rfl <| v0 (S0.not rfl) rfl <| v0 (S0.move rfl) rfl <| ?_  -- guard t16 (wants False) at t17 := fieldAddr 37 t5 4 [if #3=False]
    first | refine csP (t := 16) rfl (fun h2 => ?_) (fun h2 => ?_) | refine csN (t := 16) rfl (fun h2 => ?_) (fun h2 => ?_) | refine cs (t := 16) rfl (fun h2 => ?_) (fun h2 => ?_)
    · skip
      refine gF rfl rfl <| gF rfl rfl <| gF rfl rfl <| v0 (S0.pickT rfl rfl) rfl <| v0 (S0.move rfl) rfl <| gF rfl rfl <| gF rfl rfl <| gF rfl rfl <| gF rfl rfl <| gF rfl rfl <| gF rfl rfl <| gF rfl rfl <| gF rfl rfl <| v0 (S0.pickT rfl rfl) rfl <| vE <| WP.condT rfl <| WP.seq <| WP.region <| v0 (S0.assign rfl) rfl <| vE <| WP.ret <| ?_  -- ret
      refine Leaves.drop (take1 (atS (atS at0)) take0) ?_
      refine r1 rfl rfl ⟨?_, rfl⟩
      have h2' : rightE e = false := by simpa using h2
      simp [hord, okAt, h2']
    · skip
      have h2' : rightE e = true := by simpa using h2
      refine gT rfl <| v0 (S0.fieldAddr rfl) rfl <| gT rfl <| v0 (S0.load rfl rfl) rfl <| gT rfl <| v0 (S0.cmp rfl rfl rfl) rfl <| v0 (S0.pickF rfl rfl) rfl <| v0 (S0.move rfl) rfl <| ?_  -- guard t21 (wants False) at t22 := fieldAddr 37 t5 1 [if #8=False]
      first | refine csP (t := 21) rfl (fun h3 => ?_) (fun h3 => ?_) | refine csN (t := 21) rfl (fun h3 => ?_) (fun h3 => ?_) | refine cs (t := 21) rfl (fun h3 => ?_) (fun h3 => ?_)
      · skip
        refine gF rfl rfl <| gF rfl rfl <| gF rfl rfl <| gF rfl rfl <| gF rfl rfl <| gF rfl rfl <| gF rfl rfl <| gF rfl rfl <| v0 (S0.pickT rfl rfl) rfl <| vE <| WP.condT rfl <| WP.seq <| WP.region <| v0 (S0.assign rfl) rfl <| vE <| WP.ret <| ?_  -- ret
        refine Leaves.drop (take1 (atS (atS at0)) take0) ?_
        refine r1 rfl rfl ⟨?_, rfl⟩
        simp [hord, okAt, h3]
      · skip
        refine gT rfl <| v0 (S0.fieldAddr rfl) rfl <| gT rfl <| v0 (S0.load rfl rfl) rfl <| gT rfl <| v0 (S0.move rfl) rfl <| gT rfl <| v0 (S0.fieldAddr rfl) rfl <| gT rfl <| v0 (S0.load rfl rfl) rfl <| ?_  -- op t27 := lookup 52 t24 t26 false [if #8=False]
        refine gT rfl <| v0 (S0.lookupV (ek := Value.int .i64) rfl rfl hg) rfl <| ?_
        refine gT rfl <| v0 (S0.ari rfl rfl rfl (wrap_i64 (by omega))) rfl <| gT rfl <| v0 (S0.cmp rfl rfl rfl) rfl <| v0 (S0.pickF rfl rfl) rfl <| vE <| ?_  -- cond
        first | refine WP.condP rfl (fun h4 => ?_) (fun h4 => ?_) | refine WP.condN rfl (fun h4 => ?_) (fun h4 => ?_) | refine WP.cond rfl (fun h4 => ?_) (fun h4 => ?_)
        · skip
          refine WP.seq <| WP.region <| v0 (S0.assign rfl) rfl <| vE <| WP.ret <| ?_  -- ret
          refine Leaves.drop (take1 (atS (atS at0)) take0) ?_
          refine r1 rfl rfl ⟨?_, rfl⟩
          simp [hord, okAt, h4]
        · skip
          have h4' : e.s = (lastO (l.take i) e.o).getD 0 + 1 := by simpa using h4
          refine WP.skip <| WP.region <| v0 (S0.move rfl) rfl <| v0 (S0.fieldAddr rfl) rfl <| v0 (S0.load rfl rfl) rfl <| v0 (S0.fieldAddr rfl) rfl <| v0 (S0.load rfl rfl) rfl <| ?_  -- op mapUpdate 52 t31 t33 t35
          refine vs (S1.mapUpdate (ek := Value.int .i64) rfl rfl rfl) <| ?_
          refine vE <| WP.region <| v0 (S0.ari rfl rfl rfl (wrap_i64 (by omega))) rfl <| v0 (S0.move rfl) rfl <| vE <| ?_  -- roundend
          exact ⟨(i + 1, _, _), (by first | exact ⟨hlt, by rw [take_snoc hx]; exact hrep.snoc e, by rw [take_snoc hx]; exact hbd.snoc h2', by rw [hord, take_snoc hx]; simp [okAt, h2', h3, ← h4']⟩ | (dsimp only; exact ⟨hlt, by rw [take_snoc hx]; exact hrep.snoc e, by rw [take_snoc hx]; exact hbd.snoc h2', by rw [hord, take_snoc hx]; simp [okAt, h2', h3, ← h4']⟩)), (show l.length - (i + 1) < l.length - i by omega), ⟨⟨rfl, rfl, rfl, rfl, trivial⟩, rfl, rfl⟩, ⟨_, (take1 (atS at0) (take1 (atS at0) take0))⟩⟩
  · skip
    refine WP.exit <| WP.seq <| WP.region <| v0 (S0.assign rfl) rfl <| vE <| WP.ret <| ?_  -- ret
    refine Leaves.drop (take1 (atS at0) take0) ?_
    refine r1 rfl rfl ⟨?_, rfl⟩
    rw [hord, List.drop_eq_nil_of_le (by omega)]; rfl

theorem BdO.of {l : List Ev} (h : ∀ e ∈ l, rightE e = true) : BdO l := fun k s hs => by
  obtain ⟨e, he, -, rfl⟩ := lastO_mem hs
  exact (rightE_bd (h e he)).2.1
theorem rorder_spec {v : Value} {l : List Ev} {c : List Blk} (hr : Rd 5 evB v l c) (hw : ∀ e ∈ l, EvOk e) (hl : l.length ≤ 1000) : FN Tryd.prog 12 [v] [c] (is (.bool (ordB l)) [c]) := by
  obtain ⟨a, cap, rfl, hcap, hr⟩ := hr
  refine FN.intro 57 [(0, .slice a l.length cap)] Tryd.func12 rfl (enters Tryd.func12 (by kernel_rfl) rfl) Tryd.ntmps12 rfl rfl ?_
  refine WP.seq <| WP.region <| v0 (S0.assign rfl) rfl <| vE <| WP.seq <| WP.seq <| WP.region <| v0 (S0.assign rfl) rfl <| vE <| WP.block <| ?_  -- Code.loop
  refine WP.loop (fun i : Nat => i ≤ l.length ∧ (∀ e ∈ l.take i, rightE e = true) ∧ ordB l = ordF (l.take i) (l.drop i)) (fun i : Nat => [(0, .slice a l.length cap), (3, .int .i64 (i : Int))]) (fun i : Nat => [c]) (fun i : Nat => l.length - i) (0) (⟨Nat.zero_le _, by simp, rfl⟩) ⟨rfl, rfl, trivial⟩ ⟨_, (take1 at0 take0)⟩ (fun i hinv => ?_) 
  obtain ⟨hi, hrt, hord⟩ := hinv
  have hbd := BdO.of hrt
  refine WP.seq <| WP.seq <| WP.region <| v0 (S0.move rfl) rfl <| v0 (S0.move rfl) rfl <| v0 (S0.lenSl rfl) rfl <| v0 (S0.cmp rfl rfl rfl) rfl <| vE <| ?_  -- cond
  first | refine WP.condP rfl (fun h1 => ?_) (fun h1 => ?_) | refine WP.condN rfl (fun h1 => ?_) (fun h1 => ?_) | refine WP.cond rfl (fun h1 => ?_) (fun h1 => ?_)
  · skip
    have hlt : i < l.length := by omega
    rcases hr with e | ⟨b, o, GL, U, fz, rfl, hm, hel⟩
    · rw [e] at hlt; simp at hlt
    have : HasC c b (.cells ⟨GL⟩ U fz) := ⟨hm⟩
    have hx : l[i]? = some l[i] := by simp [hlt]
    have hok := hw _ (List.getElem_mem hlt)
    rw [drop_cons hx] at hord
    generalize l[i] = e at hx hok hord
    have hele := hel i e hx
    have ht := hok.t
    have hgb := hbd.getD e.o
    simp only [ordF] at hord
    refine WP.skip <| WP.seq <| WP.block <| WP.seq <| WP.region <| v0 (S0.assign rfl) rfl <| vE <| WP.seq <| WP.seq <| WP.region <| v0 (S0.assign rfl) rfl <| vE <| WP.block <| ?_  -- Code.loop
    refine WP.loop (fun st : Nat × Int => st.1 ≤ i ∧ st.2 = (lastO (l.take st.1) e.o).getD 0 + 1) (fun st : Nat × Int => [(0, .slice (some ⟨b, o, none⟩) l.length cap), (3, .int .i64 (i : Int)), (4, .int .i64 st.2), (5, .int .i64 (st.1 : Int))]) (fun st : Nat × Int => [c]) (fun st : Nat × Int => i - st.1) ((0, 1)) (⟨Nat.zero_le _, rfl⟩) ⟨rfl, rfl, rfl, rfl, trivial⟩ ⟨_, (take1 at0 take0)⟩ (fun st hinv => ?_) 
    obtain ⟨k, n⟩ := st
    obtain ⟨hk, hn⟩ := hinv
    dsimp only at hk hn ⊢
    refine WP.seq <| WP.seq <| WP.region <| v0 (S0.move rfl) rfl <| v0 (S0.move rfl) rfl <| v0 (S0.cmp rfl rfl rfl) rfl <| vE <| ?_  -- cond
    first | refine WP.condP rfl (fun h2 => ?_) (fun h2 => ?_) | refine WP.condN rfl (fun h2 => ?_) (fun h2 => ?_) | refine WP.cond rfl (fun h2 => ?_) (fun h2 => ?_)
    · skip
      have hlt2 : k < l.length := by omega
      have hy : l[k]? = some l[k] := by simp [hlt2]
      generalize l[k] = y at hy
      have hyr := (rightE_bd (hrt y (by rw [List.mem_take_iff_getElem]; obtain ⟨h1, h2⟩ := List.getElem?_eq_some_iff.1 hy; exact ⟨k, by omega, h2⟩))).2.1
      have hely := hel k y hy
      skip
      refine WP.skip <| WP.seq <| WP.block <| WP.seq <| WP.drawP [(0, none), (1, none), (2, none), (3, none), (4, none), (5, none), (6, none), (7, none), (8, none), (9, none), (10, none)] mixed (by kernel_rfl) (by kernel_rfl) (by kernel_rfl) (take1 at0 take0) <| w0 rfl rfl rfl (S0.move rfl) rfl <| w0 rfl rfl rfl (S0.move rfl) rfl <| ?_  -- op t19 := indexAddr 22 t17 t18
      refine w0 rfl rfl rfl (S0.indexO rfl rfl hlt2) rfl <| ?_
      refine w0 rfl rfl rfl (S0.fieldAddr rfl) rfl <| ?_  -- limit
      refine w0 rfl rfl rfl (S0.load rfl (rd_get (k := 5) hely (j := 0) (by omega))) rfl <| ?_
      refine w0 rfl rfl rfl (S0.move rfl) rfl <| w0 rfl rfl rfl (S0.move rfl) rfl <| ?_  -- op t24 := indexAddr 22 t22 t23
      refine w0 rfl rfl rfl (S0.indexO rfl rfl hlt) rfl <| ?_
      refine w0 rfl rfl rfl (S0.fieldAddr rfl) rfl <| ?_  -- limit
      refine w0 rfl rfl rfl (S0.load rfl (rd_get (k := 5) hele (j := 0) (by omega))) rfl <| ?_
      refine w0 rfl rfl rfl (S0.cmp rfl rfl rfl) rfl <| wE <| ?_  -- cond
      first | refine WP.condP rfl (fun h3 => ?_) (fun h3 => ?_) | refine WP.condN rfl (fun h3 => ?_) (fun h3 => ?_) | refine WP.cond rfl (fun h3 => ?_) (fun h3 => ?_)
      · skip
        refine WP.region <| v0 (S0.move rfl) rfl <| v0 (S0.move rfl) rfl <| ?_  -- op t30 := indexAddr 22 t28 t29
        refine v0 (S0.indexO rfl rfl hlt2) rfl <| ?_
        refine v0 (S0.fieldAddr rfl) rfl <| ?_  -- limit
        refine v0 (S0.load rfl (rd_get (k := 5) hely (j := 1) (by omega))) rfl <| ?_
        refine v0 (S0.ari rfl rfl rfl (wrap_i64 (by omega))) rfl <| v0 (S0.assign rfl) rfl <| vE <| WP.region <| v0 (S0.move rfl) rfl <| v0 (S0.ari rfl rfl rfl (wrap_i64 (by omega))) rfl <| v0 (S0.assign rfl) rfl <| vE <| ?_  -- roundend
        exact ⟨(k + 1, y.s + 1), (by first | exact ⟨by omega, by rw [take_snoc hy, lastO_snoc, if_pos h3]; rfl⟩ | (dsimp only; exact ⟨by omega, by rw [take_snoc hy, lastO_snoc, if_pos h3]; rfl⟩)), (show i - (k + 1) < i - k by omega), ⟨⟨rfl, rfl, rfl, rfl, trivial⟩, rfl, rfl⟩, ⟨_, (take1 at0 take0)⟩⟩
      · skip
        refine WP.skip <| WP.region <| v0 (S0.move rfl) rfl <| v0 (S0.ari rfl rfl rfl (wrap_i64 (by omega))) rfl <| v0 (S0.assign rfl) rfl <| vE <| ?_  -- roundend
        exact ⟨(k + 1, n), (by first | exact ⟨by omega, by rw [take_snoc hy, lastO_snoc, if_neg h3]; exact hn⟩ | (dsimp only; exact ⟨by omega, by rw [take_snoc hy, lastO_snoc, if_neg h3]; exact hn⟩)), (show i - (k + 1) < i - k by omega), ⟨⟨rfl, rfl, rfl, rfl, trivial⟩, rfl, rfl⟩, ⟨_, (take1 at0 take0)⟩⟩
    · skip
      rw [show k = i by omega] at hn
      subst hn
      refine WP.exit <| WP.seq <| WP.region <| v0 (S0.move rfl) rfl <| v0 (S0.move rfl) rfl <| ?_  -- op t36 := indexAddr 22 t34 t35
      refine v0 (S0.indexO rfl rfl hlt) rfl <| ?_
      refine v0 (S0.loadA (vs := evB e) rfl hele rfl) rfl <| ?_
      refine vcd (S1.callF rfl (revRight_spec (by omega)) take0) rfl <| v0 (S0.not rfl) rfl <| v0 (S0.move rfl) rfl <| ?_  -- guard t40 (wants False) at t41 := move t0 [if #6=False]
      first | refine csP (t := 40) rfl (fun h2 => ?_) (fun h2 => ?_) | refine csN (t := 40) rfl (fun h2 => ?_) (fun h2 => ?_) | refine cs (t := 40) rfl (fun h2 => ?_) (fun h2 => ?_)
      · skip
        refine gF rfl rfl <| gF rfl rfl <| gF rfl rfl <| gF rfl rfl <| gF rfl rfl <| gF rfl rfl <| v0 (S0.pickT rfl rfl) rfl <| v0 (S0.move rfl) rfl <| gF rfl rfl <| gF rfl rfl <| gF rfl rfl <| gF rfl rfl <| gF rfl rfl <| gF rfl rfl <| gF rfl rfl <| v0 (S0.pickT rfl rfl) rfl <| vE <| WP.condT rfl <| WP.seq <| WP.region <| v0 (S0.assign rfl) rfl <| vE <| WP.ret <| ?_  -- ret
        refine r1 rfl rfl ⟨?_, rfl⟩
        have h2' : rightE e = false := by simpa using h2
        simp [hord, okAt, h2']
      · skip
        have h2' : rightE e = true := by simpa using h2
        have hbe := (rightE_bd h2').2.2
        refine gT rfl <| v0 (S0.move rfl) rfl <| gT rfl <| v0 (S0.move rfl) rfl <| ?_  -- op t43 := indexAddr 22 t41 t42 [if #6=False]
        refine gT rfl <| v0 (S0.indexO rfl rfl hlt) rfl <| ?_
        refine gT rfl <| v0 (S0.fieldAddr rfl) rfl <| ?_  -- limit
        refine gT rfl <| v0 (S0.load rfl (rd_get (k := 5) hele (j := 4) (by omega))) rfl <| ?_
        refine gT rfl <| v0 (S0.cmp rfl rfl rfl) rfl <| v0 (S0.pickF rfl rfl) rfl <| v0 (S0.move rfl) rfl <| ?_  -- guard t48 (wants False) at t49 := move t0 [if #14=False]
        first | refine csP (t := 48) rfl (fun h3 => ?_) (fun h3 => ?_) | refine csN (t := 48) rfl (fun h3 => ?_) (fun h3 => ?_) | refine cs (t := 48) rfl (fun h3 => ?_) (fun h3 => ?_)
        · skip
          refine gF rfl rfl <| gF rfl rfl <| gF rfl rfl <| gF rfl rfl <| gF rfl rfl <| gF rfl rfl <| gF rfl rfl <| v0 (S0.pickT rfl rfl) rfl <| vE <| WP.condT rfl <| WP.seq <| WP.region <| v0 (S0.assign rfl) rfl <| vE <| WP.ret <| ?_  -- ret
          refine r1 rfl rfl ⟨?_, rfl⟩
          simp [hord, okAt, show e.e = 0 by omega]
        · skip
          refine gT rfl <| v0 (S0.move rfl) rfl <| gT rfl <| v0 (S0.move rfl) rfl <| ?_  -- op t51 := indexAddr 22 t49 t50 [if #14=False]
          refine gT rfl <| v0 (S0.indexO rfl rfl hlt) rfl <| ?_
          refine gT rfl <| v0 (S0.fieldAddr rfl) rfl <| ?_  -- limit
          refine gT rfl <| v0 (S0.load rfl (rd_get (k := 5) hele (j := 1) (by omega))) rfl <| ?_
          refine gT rfl <| v0 (S0.move rfl) rfl <| gT rfl <| v0 (S0.cmp rfl rfl rfl) rfl <| v0 (S0.pickF rfl rfl) rfl <| vE <| ?_  -- cond
          first | refine WP.condP rfl (fun h4 => ?_) (fun h4 => ?_) | refine WP.condN rfl (fun h4 => ?_) (fun h4 => ?_) | refine WP.cond rfl (fun h4 => ?_) (fun h4 => ?_)
          · skip
            refine WP.seq <| WP.region <| v0 (S0.assign rfl) rfl <| vE <| WP.ret <| ?_  -- ret
            refine r1 rfl rfl ⟨?_, rfl⟩
            simp [hord, okAt, h4]
          · skip
            have h4' : e.s = (lastO (l.take i) e.o).getD 0 + 1 := by simpa using h4
            have h3' : ¬ e.e = 0 := by omega
            refine WP.skip <| WP.region <| v0 (S0.move rfl) rfl <| v0 (S0.ari rfl rfl rfl (wrap_i64 (by omega))) rfl <| v0 (S0.assign rfl) rfl <| vE <| ?_  -- roundend
            exact ⟨i + 1, (by first | exact ⟨hlt, all_snoc (p := fun e => rightE e = true) hrt hx h2', by rw [hord, take_snoc hx]; simp [okAt, h2', h3', ← h4']⟩ | (dsimp only; exact ⟨hlt, all_snoc (p := fun e => rightE e = true) hrt hx h2', by rw [hord, take_snoc hx]; simp [okAt, h2', h3', ← h4']⟩)), (by omega), ⟨⟨rfl, rfl, trivial⟩, rfl, rfl⟩, ⟨_, (take1 at0 take0)⟩⟩
  · skip
    refine WP.exit <| WP.seq <| WP.region <| v0 (S0.assign rfl) rfl <| vE <| WP.ret <| ?_  -- ret
    refine r1 rfl rfl ⟨?_, rfl⟩
    rw [hord, List.drop_eq_nil_of_le (by omega)]; rfl

/-! marks -/
theorem mark_spec {lv : Value} {row : List Blk} {R : BM} (hs : IsSl 49 2 lv (R.flatMap mkB) row) (hl : R.length ≤ 1000) (m : Int × Int) : FN Tryd.prog 29 [lv, .agg ⟨mkB m⟩] [row] (fun v h => ∃ row2, IsSl 49 2 v ((markB R m).flatMap mkB) row2 ∧ h = [row2, row]) := by
  obtain ⟨a, cap, rfl, hcap, hrow⟩ := IsSl.elems (k := 1) mkB_len hs
  refine FN.intro 53 [(0, .slice a R.length cap), (1, .agg ⟨mkB m⟩)] Tryd.func29 rfl (enters Tryd.func29 (by kernel_rfl) rfl) Tryd.ntmps29 rfl rfl ?_
  refine WP.seq <| WP.region <| vn (S1.box rfl rfl) rfl fun b3 => v0 (S0.assign rfl) rfl <| vE <| WP.seq <| WP.region <| vnv (S1.buildSlice rfl (qs := []) rfl rfl) rfl fun b8 => v0 (S0.assign rfl) rfl <| v0 (S0.assign rfl) rfl <| vE <| WP.seq <| WP.seq <| WP.region <| v0 (S0.assign rfl) rfl <| vE <| WP.block <| ?_  -- Code.loop
  refine WP.loop (fun st : Nat × BM × Bool × Value × List Blk => st.1 ≤ R.length ∧ st.2.1.length ≤ 2 * st.1 ∧ (st.2.1, st.2.2.1) = (R.take st.1).foldl (stepM m) ([], false) ∧ IsSl 49 2 st.2.2.2.1 (st.2.1.flatMap mkB) st.2.2.2.2) (fun st : Nat × BM × Bool × Value × List Blk => [(0, .slice a R.length cap), (3, .pointer (some ⟨b3, 0, none⟩)), (5, st.2.2.2.1), (6, .bool st.2.2.1), (7, .int .i64 (st.1 : Int))]) (fun st : Nat × BM × Bool × Value × List Blk => st.2.2.2.2 :: [(b3, cel (mkB m) 49)] :: row :: []) (fun st : Nat × BM × Bool × Value × List Blk => R.length - st.1) ((0, [], false, _, [(b8, .cells ⟨[]⟩ 49 (0, 0))])) (⟨Nat.zero_le _, Nat.le_refl _, rfl, IsSl.row (n := 0) (c := 0) (l := []) (sp := []) rfl rfl (Nat.le_refl _)⟩) ⟨rfl, rfl, rfl, rfl, rfl, trivial⟩ ⟨_, (take1 at0 (take1 at0 (take1 at0 take0)))⟩ (fun st hinv => ?_) 
  obtain ⟨i, O, inn, ov, orow⟩ := st
  obtain ⟨hi, hol, hst, hosl⟩ := hinv
  dsimp only at hi hol hst hosl ⊢
  refine WP.seq <| WP.seq <| WP.region <| v0 (S0.move rfl) rfl <| v0 (S0.move rfl) rfl <| v0 (S0.lenSl rfl) rfl <| v0 (S0.cmp rfl rfl rfl) rfl <| vE <| ?_  -- cond
  first | refine WP.condP rfl (fun h1 => ?_) (fun h1 => ?_) | refine WP.condN rfl (fun h1 => ?_) (fun h1 => ?_) | refine WP.cond rfl (fun h1 => ?_) (fun h1 => ?_)
  · skip
    have hlt : i < R.length := by omega
    rcases hrow with ⟨e, -⟩ | ⟨b, sp, rfl, rfl, hsp⟩
    · rw [e] at hlt; simp at hlt
    have hx : R[i]? = some R[i] := by simp [hlt]
    generalize R[i] = x at hx
    have hfl := flat_take (k := 2) mkB_len sp R i x hx
    have hstep : (R.take (i + 1)).foldl (stepM m) ([], false) = stepM m (O, inn) x := by rw [take_snoc hx, List.foldl_append, ← hst]; rfl
    refine WP.skip <| WP.seq <| WP.block <| WP.seq <| ?_  -- cut
    refine WP.cutT (fun st : BM × Bool × Value × List Blk => st.1.length ≤ O.length + 1 ∧ (st.1, st.2.1) = (if !inn && decide (m.1 ≤ x.1) then (O ++ [m], true) else (O, inn)) ∧ IsSl 49 2 st.2.2.1 (st.1.flatMap mkB) st.2.2.2) (fun st : BM × Bool × Value × List Blk => [(0, .slice (some ⟨b, 0, none⟩) R.length cap), (3, .pointer (some ⟨b3, 0, none⟩)), (5, st.2.2.1), (6, .bool st.2.1), (7, .int .i64 (i : Int))]) (fun st : BM × Bool × Value × List Blk => st.2.2.2 :: [(b3, cel (mkB m) 49)] :: [(b, .cells ⟨R.flatMap mkB ++ sp⟩ 49 (0, 0))] :: []) ?_ (fun st hinv => ?_)
    · skip
      refine WP.seq <| WP.drawP [(0, none), (1, none), (2, none), (3, none), (4, none), (5, none), (6, none), (7, none), (8, none), (9, none), (10, none), (11, none)] mixed (by kernel_rfl) (by kernel_rfl) (by kernel_rfl) (take1 (atS at0) (take1 (atS at0) take0)) <| w0 rfl rfl rfl (S0.move rfl) rfl <| w0 rfl rfl rfl (S0.not rfl) rfl <| w0 rfl rfl rfl (S0.move rfl) rfl <| ?_  -- guard t17 (wants True) at t18 := move t0 [if #2=True]
      first | refine wcsP (t := 17) rfl (fun hin => ?_) (fun hin => ?_) | refine wcsN (t := 17) rfl (fun hin => ?_) (fun hin => ?_) | refine wcs (t := 17) rfl (fun hin => ?_) (fun hin => ?_)
      · skip
        have hin' : inn = false := by simpa using hin
        refine w0 rfl rfl rfl (S0.move rfl) rfl <| w0 rfl rfl rfl (S0.move rfl) rfl <| ?_  -- op t20 := indexAddr 30 t18 t19 [if #2=True]
        refine w0 rfl rfl rfl (S0.indexN rfl rfl hlt) rfl <| ?_
        refine w0 rfl rfl rfl (S0.fieldAddr rfl) rfl <| ?_  -- limit
        refine w0 rfl rfl rfl (S0.load rfl (flat_get (k := 2) mkB_len sp R i 0 _ hx (by omega))) rfl <| ?_
        refine w0 rfl rfl rfl (S0.fieldAddr rfl) rfl <| w0 rfl rfl rfl (S0.load rfl rfl) rfl <| w0 rfl rfl rfl (S0.cmp rfl rfl rfl) rfl <| w0 rfl rfl rfl (S0.pickT rfl rfl) rfl <| wE <| ?_  -- cond
        first | refine WP.condP rfl (fun h2 => ?_) (fun h2 => ?_) | refine WP.condN rfl (fun h2 => ?_) (fun h2 => ?_) | refine WP.cond rfl (fun h2 => ?_) (fun h2 => ?_)
        · skip
          refine WP.seq <| WP.region <| v0 (S0.move rfl) rfl <| v0 (S0.loadAL rfl) rfl <| vnv (S1.buildSlice rfl (qs := [(0, _)]) rfl rfl) rfl fun b29 => ?_  -- op t30 := append(t27, t29) :[30, 30]
          refine ve (S1.appendL rfl hosl rfl rfl (atS (atS (atS at0))) rfl rfl (by rw [flat_len mkB_len]; simp; omega)) rfl ?_
          rintro v2 _ ⟨row2, hsl2, rfl⟩
          refine v0 (S0.assign rfl) rfl <| vE <| WP.region <| v0 (S0.assign rfl) rfl <| vE <| ?_  -- cutend
          exact ⟨(O ++ [m], true, v2, row2), (by first | exact ⟨by simp, by simp [hin', h2], by simpa using hsl2⟩ | (dsimp only; exact ⟨by simp, by simp [hin', h2], by simpa using hsl2⟩)), ⟨⟨rfl, rfl, rfl, rfl, rfl, trivial⟩, rfl, rfl⟩, ⟨_, (take1 at0 (take1 (atS at0) (take1 (atS at0) take0)))⟩⟩
        · skip
          refine WP.skip <| ?_  -- cutend
          exact ⟨(O, inn, ov, orow), (by first | exact ⟨by omega, by simp [h2], hosl⟩ | (dsimp only; exact ⟨by omega, by simp [h2], hosl⟩)), ⟨⟨rfl, rfl, rfl, rfl, rfl, trivial⟩, rfl, rfl⟩, ⟨_, (take1 (atS (atS at0)) (take1 at0 (take1 at0 take0)))⟩⟩
      · skip
        have hin' : inn = true := by simpa using hin
        refine wF rfl rfl rfl rfl <| wF rfl rfl rfl rfl <| wF rfl rfl rfl rfl <| wF rfl rfl rfl rfl <| wF rfl rfl rfl rfl <| wF rfl rfl rfl rfl <| wF rfl rfl rfl rfl <| wF rfl rfl rfl rfl <| w0 rfl rfl rfl (S0.pickF rfl rfl) rfl <| wE <| WP.condF rfl <| WP.skip <| ?_  -- cutend
        exact ⟨(O, inn, ov, orow), (by first | exact ⟨by omega, by simp [hin'], hosl⟩ | (dsimp only; exact ⟨by omega, by simp [hin'], hosl⟩)), ⟨⟨rfl, rfl, rfl, rfl, rfl, trivial⟩, rfl, rfl⟩, ⟨_, (take1 (atS (atS at0)) (take1 at0 (take1 at0 take0)))⟩⟩
    · skip
      obtain ⟨O2, in2, ov2, orow2⟩ := st
      obtain ⟨hol2, hst2, hosl2⟩ := hinv
      dsimp only at hol2 hst2 hosl2 ⊢
      skip
      refine WP.seq <| WP.drawP [(0, none), (1, none), (2, none), (3, none), (4, none), (5, none), (6, none), (7, none)] mixed (by kernel_rfl) (by kernel_rfl) (by kernel_rfl) (take1 (atS at0) (take1 (atS at0) take0)) <| w0 rfl rfl rfl (S0.move rfl) rfl <| w0 rfl rfl rfl (S0.move rfl) rfl <| ?_  -- op t33 := indexAddr 30 t31 t32
      refine w0 rfl rfl rfl (S0.indexN rfl rfl hlt) rfl <| ?_
      refine w0 rfl rfl rfl (S0.fieldAddr rfl) rfl <| ?_  -- limit
      refine w0 rfl rfl rfl (S0.load rfl (flat_get (k := 2) mkB_len sp R i 0 _ hx (by omega))) rfl <| ?_
      refine w0 rfl rfl rfl (S0.fieldAddr rfl) rfl <| w0 rfl rfl rfl (S0.load rfl rfl) rfl <| w0 rfl rfl rfl (S0.cmp rfl rfl rfl) rfl <| wE <| ?_  -- cond
      first | refine WP.condP rfl (fun h2 => ?_) (fun h2 => ?_) | refine WP.condN rfl (fun h2 => ?_) (fun h2 => ?_) | refine WP.cond rfl (fun h2 => ?_) (fun h2 => ?_)
      · skip
        refine WP.region <| v0 (S0.move rfl) rfl <| v0 (S0.move rfl) rfl <| v0 (S0.move rfl) rfl <| ?_  -- op t42 := indexAddr 30 t40 t41
        refine v0 (S0.indexN rfl rfl hlt) rfl <| ?_
        refine v0 (S0.loadA (vs := mkB x) rfl hfl rfl) rfl <| ?_
        refine vnv (S1.buildSlice rfl (qs := [(0, _)]) rfl rfl) rfl fun b44 => ?_  -- op t45 := append(t39, t44) :[30, 30]
        refine ve (S1.appendL rfl hosl2 rfl rfl (atS (atS (atS at0))) rfl rfl (by rw [flat_len mkB_len]; simp; omega)) rfl ?_
        rintro v2 _ ⟨row2, hsl2, rfl⟩
        refine v0 (S0.assign rfl) rfl <| vE <| WP.region <| v0 (S0.move rfl) rfl <| v0 (S0.ari rfl rfl rfl (wrap_i64 (by omega))) rfl <| v0 (S0.assign rfl) rfl <| vE <| ?_  -- roundend
        exact ⟨(i + 1, O2 ++ [x], in2, v2, row2), (by first | exact ⟨hlt, by simp; omega, by rw [hstep]; unfold stepM; rw [if_neg h2, ← hst2], by simpa using hsl2⟩ | (dsimp only; exact ⟨hlt, by simp; omega, by rw [hstep]; unfold stepM; rw [if_neg h2, ← hst2], by simpa using hsl2⟩)), (show R.length - (i + 1) < R.length - i by omega), ⟨⟨rfl, rfl, rfl, rfl, rfl, trivial⟩, rfl, rfl⟩, ⟨_, (take1 at0 (take1 (atS at0) (take1 (atS at0) take0)))⟩⟩
      · skip
        refine WP.skip <| WP.region <| v0 (S0.move rfl) rfl <| v0 (S0.ari rfl rfl rfl (wrap_i64 (by omega))) rfl <| v0 (S0.assign rfl) rfl <| vE <| ?_  -- roundend
        exact ⟨(i + 1, O2, in2, ov2, orow2), (by first | exact ⟨hlt, by omega, by rw [hstep]; unfold stepM; rw [if_pos (by simpa using h2), ← hst2], hosl2⟩ | (dsimp only; exact ⟨hlt, by omega, by rw [hstep]; unfold stepM; rw [if_pos (by simpa using h2), ← hst2], hosl2⟩)), (show R.length - (i + 1) < R.length - i by omega), ⟨⟨rfl, rfl, rfl, rfl, rfl, trivial⟩, rfl, rfl⟩, ⟨_, (take1 (atS (atS at0)) (take1 at0 (take1 at0 take0)))⟩⟩
  · skip
    rw [List.take_of_length_le (by omega)] at hst
    have hfin : markB R m = finM m (O, inn) := by rw [markB, ← hst]
    refine WP.exit <| WP.seq <| WP.seq <| WP.region <| v0 (S0.move rfl) rfl <| v0 (S0.not rfl) rfl <| vE <| ?_  -- cond
    first | refine WP.condP rfl (fun h2 => ?_) (fun h2 => ?_) | refine WP.condN rfl (fun h2 => ?_) (fun h2 => ?_) | refine WP.cond rfl (fun h2 => ?_) (fun h2 => ?_)
    · skip
      have h2' : inn = false := by simpa using h2
      refine WP.region <| v0 (S0.move rfl) rfl <| v0 (S0.loadAL rfl) rfl <| vnv (S1.buildSlice rfl (qs := [(0, _)]) rfl rfl) rfl fun b50 => ?_  -- op t51 := append(t48, t50) :[30, 30]
      refine ve (S1.appendL rfl hosl rfl rfl (atS at0) rfl rfl (by rw [flat_len mkB_len]; simp; omega)) rfl ?_
      rintro v2 _ ⟨row2, hsl2, rfl⟩
      refine v0 (S0.assign rfl) rfl <| vE <| WP.seq <| WP.region <| v0 (S0.move rfl) rfl <| v0 (S0.assign rfl) rfl <| vE <| WP.ret <| ?_  -- ret
      refine Leaves.drop (take1 at0 (take1 (atS (atS at0)) take0)) ?_
      refine r1 rfl rfl ?_
      exact ⟨row2, by rw [hfin, finM, h2']; simpa using hsl2, rfl⟩
    · skip
      have h2' : inn = true := by simpa using h2
      refine WP.skip <| WP.seq <| WP.region <| v0 (S0.move rfl) rfl <| v0 (S0.assign rfl) rfl <| vE <| WP.ret <| ?_  -- ret
      refine Leaves.drop (take1 at0 (take1 (atS at0) take0)) ?_
      refine r1 rfl rfl ?_
      exact ⟨orow, by rw [hfin, finM, h2']; exact hosl, rfl⟩
end Go.Proofs.YtgcclpfpnfmjcaaDoor
