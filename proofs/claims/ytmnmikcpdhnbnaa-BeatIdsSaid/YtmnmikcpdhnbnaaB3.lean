import Derived.Test.YtmnmikcpdhnbnaaB2
namespace Go.Proofs.Ytmnmikcpdhnbnaa
open Go

/-! the document's answer -/
abbrev enB (x : Int × Int) : List Value := [.int .i64 x.1, .int .i64 x.2]
theorem enB_len (x : Int × Int) : (enB x).length = 1 + 1 := rfl
def IsR (b : Nat) (every limit last : Int) (R : BM) (c : List Blk) : Prop := ∃ v row, IsSl 54 2 v (R.flatMap enB) row ∧ c = (b, cel [.int .i64 every, .int .i64 limit, .int .i64 last, v] 51) :: row

theorem rnew_spec (every limit : Int) : FN Try.prog 9 [.int .i64 every, .int .i64 limit] []
    (fun v h => (¬ (1 ≤ every ∧ every ≤ limit ∧ limit ≤ 1000) ∧ v = .tuple ⟨[.pointer none, .int .i64 1]⟩ ∧ h = []) ∨ ((1 ≤ every ∧ every ≤ limit ∧ limit ≤ 1000) ∧ ∃ b c, v = .tuple ⟨[.pointer (some ⟨b, 0, none⟩), .int .i64 0]⟩ ∧ h = [c] ∧ IsR b every limit (-1) [] c)) := by
  have bad : ∀ (f : Fr), ¬ (1 ≤ every ∧ every ≤ limit ∧ limit ≤ 1000) → f.d = [] → look 4 f.s = some (.pointer none) → look 5 f.s = some (.int .i64 1) → Leaves Try.prog Try.f9 (fun v h => (¬ (1 ≤ every ∧ every ≤ limit ∧ limit ≤ 1000) ∧ v = .tuple ⟨[.pointer none, .int .i64 1]⟩ ∧ h = []) ∨ ((1 ≤ every ∧ every ≤ limit ∧ limit ≤ 1000) ∧ ∃ b c, v = .tuple ⟨[.pointer (some ⟨b, 0, none⟩), .int .i64 0]⟩ ∧ h = [c] ∧ IsR b every limit (-1) [] c)) [] f [] :=
    fun f h1 h2 h3 h4 => r2 rfl h3 h4 (.inl ⟨h1, rfl, rfl⟩)
  refine FN.intro 21 [(0, .int .i64 every), (1, .int .i64 limit)] Try.func9 rfl (enters Try.func9 (by kernel_rfl) rfl) Try.ntmps9 rfl rfl ?_
  refine WP.seq <| WP.region <| v0 (S0.assign rfl) rfl <| v0 (S0.assign rfl) rfl <| vE <| WP.seq <| WP.seq <| WP.region <| v0 (S0.move rfl) rfl <| v0 (S0.cmp rfl rfl rfl) rfl <| v0 (S0.move rfl) rfl <| ?_  -- guard t8 (wants False) at t9 := move t1 [if #2=False]
  first | refine csP (t := 8) rfl (fun h1 => ?_) (fun h1 => ?_) | refine csN (t := 8) rfl (fun h1 => ?_) (fun h1 => ?_) | refine cs (t := 8) rfl (fun h1 => ?_) (fun h1 => ?_)
  · skip
    refine gF rfl rfl <| gF rfl rfl <| gF rfl rfl <| v0 (S0.pickT rfl rfl) rfl <| v0 (S0.move rfl) rfl <| gF rfl rfl <| gF rfl rfl <| v0 (S0.pickT rfl rfl) rfl <| vE <| WP.condT rfl <| WP.seq <| WP.region <| v0 (S0.assign rfl) rfl <| v0 (S0.assign rfl) rfl <| vE <| WP.ret <| ?_  -- ret
    exact bad _ (by omega) rfl rfl rfl
  · skip
    refine gT rfl <| v0 (S0.move rfl) rfl <| gT rfl <| v0 (S0.move rfl) rfl <| gT rfl <| v0 (S0.cmp rfl rfl rfl) rfl <| v0 (S0.pickF rfl rfl) rfl <| v0 (S0.move rfl) rfl <| ?_  -- guard t13 (wants False) at t14 := move t1 [if #7=False]
    first | refine csP (t := 13) rfl (fun h2 => ?_) (fun h2 => ?_) | refine csN (t := 13) rfl (fun h2 => ?_) (fun h2 => ?_) | refine cs (t := 13) rfl (fun h2 => ?_) (fun h2 => ?_)
    · skip
      refine gF rfl rfl <| gF rfl rfl <| v0 (S0.pickT rfl rfl) rfl <| vE <| WP.condT rfl <| WP.seq <| WP.region <| v0 (S0.assign rfl) rfl <| v0 (S0.assign rfl) rfl <| vE <| WP.ret <| ?_  -- ret
      exact bad _ (by omega) rfl rfl rfl
    · skip
      refine gT rfl <| v0 (S0.move rfl) rfl <| gT rfl <| v0 (S0.cmp rfl rfl rfl) rfl <| v0 (S0.pickF rfl rfl) rfl <| vE <| ?_  -- cond
      first | refine WP.condP rfl (fun h3 => ?_) (fun h3 => ?_) | refine WP.condN rfl (fun h3 => ?_) (fun h3 => ?_) | refine WP.cond rfl (fun h3 => ?_) (fun h3 => ?_)
      · skip
        refine WP.seq <| WP.region <| v0 (S0.assign rfl) rfl <| v0 (S0.assign rfl) rfl <| vE <| WP.ret <| ?_  -- ret
        exact bad _ (by omega) rfl rfl rfl
      · skip
        refine WP.skip <| WP.seq <| WP.region <| v0 (S0.move rfl) rfl <| v0 (S0.move rfl) rfl <| v0 (S0.build rfl (qs := [(0, _), (1, _), (2, _)]) rfl) rfl <| vn (S1.box rfl rfl) rfl fun b20 => v0 (S0.assign rfl) rfl <| v0 (S0.assign rfl) rfl <| vE <| WP.ret <| ?_  -- ret
        refine r2 rfl rfl rfl ?_
        exact .inr ⟨by omega, _, _, rfl, rfl, _, [], .nil, rfl⟩

theorem place_spec {b : Nat} {every limit last : Int} {R : BM} {c : List Blk} (hc : IsR b every limit last R c) (hl : R.length ≤ 1000000) (k : Int) :
    FN Try.prog 28 [.pointer (some ⟨b, 0, none⟩), .int .i64 k] [c] (fun v h => h = [c] ∧ ((v = .int .i64 (-1) ∧ gB R k = none) ∨ ∃ (i : Nat) (x : Int × Int), v = .int .i64 i ∧ i < R.length ∧ R[i]? = some x ∧ x.1 = k ∧ ∀ j y, j < i → R[j]? = some y → y.1 ≠ k)) := by
  obtain ⟨v, row, hsl, rfl⟩ := hc
  obtain ⟨a, cap, rfl, hcap, hrow⟩ := IsSl.elems (k := 1) enB_len hsl
  refine FN.intro 26 [(0, .pointer (some ⟨b, 0, none⟩)), (1, .int .i64 k)] Try.func28 rfl (enters Try.func28 (by kernel_rfl) rfl) Try.ntmps28 rfl rfl ?_
  refine WP.seq <| WP.region <| v0 (S0.assign rfl) rfl <| vE <| WP.seq <| WP.seq <| WP.region <| v0 (S0.assign rfl) rfl <| vE <| WP.block <| ?_  -- Code.loop
  refine WP.loop (fun i : Nat => i ≤ R.length ∧ ∀ j y, j < i → R[j]? = some y → y.1 ≠ k) (fun i : Nat => [(0, .pointer (some ⟨b, 0, none⟩)), (1, .int .i64 k), (5, .int .i64 (i : Int))]) (fun i : Nat => [(b, cel [.int .i64 every, .int .i64 limit, .int .i64 last, .slice a R.length cap] 51) :: row]) (fun i : Nat => R.length - i) (0) (⟨by omega, fun j y hj => by omega⟩) ⟨rfl, rfl, rfl, trivial⟩ ⟨_, (take1 at0 take0)⟩ (fun i hinv => ?_) 
  obtain ⟨hi, hno⟩ := hinv
  refine WP.seq <| WP.seq <| WP.region <| v0 (S0.move rfl) rfl <| v0 (S0.move rfl) rfl <| v0 (S0.nilCheck rfl) rfl <| v0 (S0.fieldAddr rfl) rfl <| v0 (S0.load rfl rfl) rfl <| v0 (S0.lenSl rfl) rfl <| v0 (S0.cmp rfl rfl rfl) rfl <| vE <| ?_  -- cond
  first | refine WP.condP rfl (fun h1 => ?_) (fun h1 => ?_) | refine WP.condN rfl (fun h1 => ?_) (fun h1 => ?_) | refine WP.cond rfl (fun h1 => ?_) (fun h1 => ?_)
  · skip
    refine WP.skip <| WP.seq <| WP.block <| WP.seq <| WP.region <| v0 (S0.move rfl) rfl <| v0 (S0.nilCheck rfl) rfl <| v0 (S0.fieldAddr rfl) rfl <| v0 (S0.load rfl rfl) rfl <| v0 (S0.move rfl) rfl <| ?_  -- op t20 := indexAddr 49 t18 t19
    rcases hrow with ⟨rfl, -⟩ | ⟨br, sp, rfl, rfl, hsp⟩
    · simp at h1; omega
    have hlt : i < R.length := by omega
    have hx : R[i]? = some R[i] := by simp [hlt]
    refine v0 (S0.indexN rfl rfl hlt) rfl <| ?_
    refine v0 (S0.fieldAddr rfl) rfl <| ?_  -- limit
    refine v0 (S0.load rfl (flat_get (k := 2) enB_len sp R i 0 _ hx (by omega))) rfl <| ?_
    refine v0 (S0.move rfl) rfl <| v0 (S0.cmp rfl rfl rfl) rfl <| vE <| ?_  -- cond
    first | refine WP.condP rfl (fun h2 => ?_) (fun h2 => ?_) | refine WP.condN rfl (fun h2 => ?_) (fun h2 => ?_) | refine WP.cond rfl (fun h2 => ?_) (fun h2 => ?_)
    · skip
      refine WP.seq <| WP.region <| v0 (S0.move rfl) rfl <| v0 (S0.assign rfl) rfl <| vE <| WP.ret <| ?_  -- ret
      refine r1 rfl rfl ?_
      exact ⟨rfl, .inr ⟨i, _, rfl, hlt, hx, h2, hno⟩⟩
    · skip
      refine WP.skip <| WP.region <| v0 (S0.move rfl) rfl <| v0 (S0.ari rfl rfl rfl (wrap_i64 (by omega))) rfl <| v0 (S0.assign rfl) rfl <| vE <| ?_  -- roundend
      exact ⟨i + 1, (by first | exact ⟨by omega, below_succ (p := fun y => y.1 ≠ k) hno hx h2⟩ | (dsimp only; exact ⟨by omega, below_succ (p := fun y => y.1 ≠ k) hno hx h2⟩)), (by omega), ⟨⟨rfl, rfl, rfl, trivial⟩, rfl, rfl⟩, ⟨_, (take1 at0 take0)⟩⟩
  · skip
    refine WP.exit <| WP.seq <| WP.region <| v0 (S0.assign rfl) rfl <| vE <| WP.ret <| ?_  -- ret
    refine r1 rfl rfl ?_
    exact ⟨rfl, .inl ⟨rfl, gB_no fun j y hj => hno j y (by omega)⟩⟩

theorem place_gB {R : BM} {k : Int} {i : Nat} {x : Int × Int} (hx : R[i]? = some x) (e : x.1 = k) (hno : ∀ j y, j < i → R[j]? = some y → y.1 ≠ k) : gB R k = some x.2 := gB_at hno hx e

theorem rheard_spec {b : Nat} {every limit last : Int} {R : BM} {c : List Blk} (hc : IsR b every limit last R c) (hl : R.length ≤ 1000000) (k now : Int) :
    FN Try.prog 13 [.pointer (some ⟨b, 0, none⟩), .int .i64 k, .int .i64 now] [c] (fun v h => v = .int .i64 (heardE R k now) ∧ ∃ c', h = [c'] ∧ IsR b every limit last (heardR R k now) c') := by
  have bad : ∀ e, heardE R k now = e → e ≠ 0 → (fun (v : Value) (h : Hp) => v = .int .i64 (heardE R k now) ∧ ∃ c', h = [c'] ∧ IsR b every limit last (heardR R k now) c') (.int .i64 e) [c] := fun e he h0 => by
    subst he
    rw [heardR, if_neg h0]
    exact ⟨rfl, _, rfl, hc⟩
  refine FN.intro 33 [(0, .pointer (some ⟨b, 0, none⟩)), (1, .int .i64 k), (2, .int .i64 now)] Try.func13 rfl (enters Try.func13 (by kernel_rfl) rfl) Try.ntmps13 rfl rfl ?_
  refine WP.seq <| WP.region <| v0 (S0.assign rfl) rfl <| vE <| WP.seq <| WP.region <| v0 (S0.move rfl) rfl <| v0 (S0.move rfl) rfl <| ?_  -- op t10 := call F28{(*rivulet/rivuletref15.Beats).place}(t8, t9)
  refine vc (S1.callF rfl (place_spec hc hl k) (take1 at0 take0)) rfl ?_
  rintro _ _ ⟨rfl, hpost⟩
  refine app ?_
  refine v0 (S0.assign rfl) rfl <| vE <| WP.seq <| WP.seq <| WP.region <| v0 (S0.move rfl) rfl <| ?_  -- op t12 := call F27{rivulet/rivuletref15.odd}(t11)
  skip
  rcases hpost with ⟨rfl, hg⟩ | ⟨i, x, rfl, hi, hx, hk, hno⟩
  · skip
    refine vcd (S1.callF rfl (odd_spec now) take0) rfl ?_
    refine vE <| ?_  -- cond
    first | refine WP.condP rfl (fun ht => ?_) (fun ht => ?_) | refine WP.condN rfl (fun ht => ?_) (fun ht => ?_) | refine WP.cond rfl (fun ht => ?_) (fun ht => ?_)
    · skip
      refine WP.seq <| WP.region <| v0 (S0.assign rfl) rfl <| vE <| WP.ret <| ?_  -- ret
      refine r1 rfl rfl ?_
      exact bad 1 (by simp [heardE, notT ht]) (by decide)
    · skip
      refine WP.skip <| WP.seq <| WP.seq <| WP.region <| v0 (S0.move rfl) rfl <| v0 (S0.cmp rfl rfl rfl) rfl <| vE <| ?_  -- cond
      refine WP.condTh rfl (rfl) ?_
      refine WP.seq <| WP.region <| v0 (S0.assign rfl) rfl <| vE <| WP.ret <| ?_  -- ret
      refine r1 rfl rfl ?_
      exact bad 8 (by simp [heardE, isT ht, hg]) (by decide)
  · skip
    have hg := place_gB hx hk hno
    refine vcd (S1.callF rfl (odd_spec now) take0) rfl ?_
    refine vE <| ?_  -- cond
    first | refine WP.condP rfl (fun ht => ?_) (fun ht => ?_) | refine WP.condN rfl (fun ht => ?_) (fun ht => ?_) | refine WP.cond rfl (fun ht => ?_) (fun ht => ?_)
    · skip
      refine WP.seq <| WP.region <| v0 (S0.assign rfl) rfl <| vE <| WP.ret <| ?_  -- ret
      refine r1 rfl rfl ?_
      exact bad 1 (by simp [heardE, notT ht]) (by decide)
    · skip
      refine WP.skip <| WP.seq <| WP.seq <| WP.region <| v0 (S0.move rfl) rfl <| v0 (S0.cmp rfl rfl rfl) rfl <| vE <| ?_  -- cond
      refine WP.condFh rfl ((decide_eq_false (by omega))) ?_
      obtain ⟨v, row, hsl, rfl⟩ := hc
      obtain ⟨a, cap, rfl, hcap, hrow⟩ := IsSl.elems (k := 1) enB_len hsl
      rcases hrow with ⟨rfl, -⟩ | ⟨br, sp, rfl, rfl, hsp⟩
      · simp at hi
      refine WP.skip <| WP.seq <| WP.seq <| WP.region <| v0 (S0.move rfl) rfl <| v0 (S0.move rfl) rfl <| v0 (S0.nilCheck rfl) rfl <| v0 (S0.fieldAddr rfl) rfl <| v0 (S0.load rfl rfl) rfl <| v0 (S0.move rfl) rfl <| ?_  -- op t21 := indexAddr 49 t19 t20
      refine v0 (S0.indexN rfl rfl hi) rfl <| ?_
      refine v0 (S0.fieldAddr rfl) rfl <| ?_  -- limit
      refine v0 (S0.load rfl (flat_get (k := 2) enB_len sp R i 1 _ hx (by omega))) rfl <| ?_
      refine v0 (S0.cmp rfl rfl rfl) rfl <| vE <| ?_  -- cond
      first | refine WP.condP rfl (fun hl2 => ?_) (fun hl2 => ?_) | refine WP.condN rfl (fun hl2 => ?_) (fun hl2 => ?_) | refine WP.cond rfl (fun hl2 => ?_) (fun hl2 => ?_)
      · skip
        refine WP.seq <| WP.region <| v0 (S0.assign rfl) rfl <| vE <| WP.ret <| ?_  -- ret
        refine r1 rfl rfl ?_
        exact bad 11 (by simp [heardE, isT ht, hg, hl2]) (by decide)
      · skip
        refine WP.skip <| WP.seq <| WP.region <| v0 (S0.move rfl) rfl <| v0 (S0.nilCheck rfl) rfl <| v0 (S0.fieldAddr rfl) rfl <| v0 (S0.load rfl rfl) rfl <| v0 (S0.move rfl) rfl <| v0 (S0.move rfl) rfl <| ?_  -- op t31 := indexAddr 49 t28 t29
        refine v0 (S0.indexN rfl rfl hi) rfl <| ?_
        refine v0 (S0.fieldAddr rfl) rfl <| ?_  -- limit
        refine vs (S1.storeI rfl rfl rfl (flat_set (k := 2) enB_len sp (y := (k, now)) (j := 1) (by omega) (by simp [enB, hk]) R i hx) (by rw [List.length_append, flat_len enB_len]; omega)) <| ?_
        refine vE <| WP.seq <| WP.region <| v0 (S0.assign rfl) rfl <| vE <| WP.ret <| ?_  -- ret
        refine r1 rfl rfl ?_
        have e : heardE R k now = 0 := by simp [heardE, isT ht, hg, hl2]
        refine ⟨by rw [e], _, rfl, ?_⟩
        rw [heardR, if_pos e, set_at hno hx hk]
        refine ⟨_, _, ?_, rfl⟩
        have := IsSl.row (E := 54) (k := 2) (b := br) (n := R.length) (c := cap) (l := (R.set i (k, now)).flatMap enB) (sp := sp) (by rw [flat_len enB_len]; simp) (by rw [List.length_append, flat_len enB_len, List.length_set, ← flat_len enB_len, ← List.length_append]; exact hsp) hcap
        exact this

theorem rwatch_spec {b : Nat} {every limit last : Int} {R : BM} {c : List Blk} (hc : IsR b every limit last R c) (hl : R.length ≤ 1000000) (k now : Int) :
    FN Try.prog 11 [.pointer (some ⟨b, 0, none⟩), .int .i64 k, .int .i64 now] [c] (fun v h => v = .int .i64 (watchE R k now) ∧ ∃ c', h = [c'] ∧ IsR b every limit last (watchR R k now) c') := by
  have bad : ∀ e, watchE R k now = e → e ≠ 0 → (fun (v : Value) (h : Hp) => v = .int .i64 (watchE R k now) ∧ ∃ c', h = [c'] ∧ IsR b every limit last (watchR R k now) c') (.int .i64 e) [c] := fun e he h0 => by
    subst he
    rw [watchR, if_neg h0]
    exact ⟨rfl, _, rfl, hc⟩
  refine FN.intro 69 [(0, .pointer (some ⟨b, 0, none⟩)), (1, .int .i64 k), (2, .int .i64 now)] Try.func11 rfl (enters Try.func11 (by kernel_rfl) rfl) Try.ntmps11 rfl rfl ?_
  refine WP.seq <| WP.region <| v0 (S0.assign rfl) rfl <| vE <| WP.seq <| WP.seq <| WP.region <| v0 (S0.move rfl) rfl <| ?_  -- op t10 := call F27{rivulet/rivuletref15.odd}(t9)
  refine vcd (S1.callF rfl (odd_spec now) take0) rfl ?_
  refine v0 (S0.move rfl) rfl <| ?_  -- guard t11 (wants False) at t12 := move t1 [if #2=False]
  first | refine csP (t := 11) rfl (fun ht => ?_) (fun ht => ?_) | refine csN (t := 11) rfl (fun ht => ?_) (fun ht => ?_) | refine cs (t := 11) rfl (fun ht => ?_) (fun ht => ?_)
  · skip
    refine gF rfl rfl <| gF rfl rfl <| v0 (S0.pickT rfl rfl) rfl <| vE <| WP.condT rfl <| WP.seq <| WP.region <| v0 (S0.assign rfl) rfl <| vE <| WP.ret <| ?_  -- ret
    refine r1 rfl rfl ?_
    exact bad 1 (by simp [watchE, notT ht]) (by decide)
  · skip
    refine gT rfl <| v0 (S0.move rfl) rfl <| gT rfl <| v0 (S0.cmp rfl rfl rfl) rfl <| v0 (S0.pickF rfl rfl) rfl <| vE <| ?_  -- cond
    first | refine WP.condP rfl (fun hk => ?_) (fun hk => ?_) | refine WP.condN rfl (fun hk => ?_) (fun hk => ?_) | refine WP.cond rfl (fun hk => ?_) (fun hk => ?_)
    · skip
      refine WP.seq <| WP.region <| v0 (S0.assign rfl) rfl <| vE <| WP.ret <| ?_  -- ret
      refine r1 rfl rfl ?_
      refine bad 1 ?_ (by decide)
      have : decide (0 ≤ k) = false := decide_eq_false (by omega)
      simp [watchE, this]
    · skip
      refine WP.skip <| WP.seq <| WP.seq <| WP.region <| v0 (S0.move rfl) rfl <| v0 (S0.move rfl) rfl <| ?_  -- op t17 := call F28{(*rivulet/rivuletref15.Beats).place}(t15, t16)
      have e0 : watchE R k now = if (gB R k).isSome then 9 else 0 := by
        rw [watchE, isT ht, decide_eq_true (by omega : 0 ≤ k)]; rfl
      refine vc (S1.callF rfl (place_spec hc hl k) (take1 at0 take0)) rfl ?_
      rintro _ _ ⟨rfl, hpost⟩
      refine app ?_
      skip
      rcases hpost with ⟨rfl, hg⟩ | ⟨i, x, rfl, hi, hx, hk2, hno⟩
      · skip
        refine v0 (S0.cmp rfl rfl rfl) rfl <| vE <| ?_  -- cond
        refine WP.condFh rfl (rfl) ?_
        refine WP.skip <| WP.seq <| WP.region <| vnv (S1.buildSlice rfl (qs := []) rfl rfl) rfl fun b19 => v0 (S0.assign rfl) rfl <| v0 (S0.assign rfl) rfl <| vE <| ?_  -- cut
        obtain ⟨v, row, hsl, rfl⟩ := hc
        obtain ⟨a, cap, rfl, hcap, hrow⟩ := IsSl.elems (k := 1) enB_len hsl
        refine WP.perm (h' := [[(b19, .cells ⟨[]⟩ 54 (0, 0))], [(b, cel [.int .i64 every, .int .i64 limit, .int .i64 last, .slice a R.length cap] 51)], row]) (k := []) (List.Perm.of_eq (by first | rfl | simp)) ?_
        refine WP.cutS (fun s : Nat × Value × List Blk => s.1 ≤ R.length ∧ (∀ j y, j < s.1 → R[j]? = some y → y.1 < k) ∧ IsSl 54 2 s.2.1 ((R.take s.1).flatMap enB) s.2.2 ∧ (∀ x, R[s.1]? = some x → ¬ x.1 < k)) (fun s : Nat × Value × List Blk => [(0, .pointer (some ⟨b, 0, none⟩)), (1, .int .i64 k), (2, .int .i64 now), (7, s.2.1), (8, .int .i64 (s.1 : Int))]) (fun s : Nat × Value × List Blk => s.2.2 :: [(b, cel [.int .i64 every, .int .i64 limit, .int .i64 last, .slice a R.length cap] 51)] :: row :: []) ?_ (fun s hinv => ?_)
        · refine WP.block <| ?_  -- Code.loop
          refine WP.loop (fun s : Nat × Value × List Blk => s.1 ≤ R.length ∧ (∀ j y, j < s.1 → R[j]? = some y → y.1 < k) ∧ IsSl 54 2 s.2.1 ((R.take s.1).flatMap enB) s.2.2) (fun s : Nat × Value × List Blk => [(0, .pointer (some ⟨b, 0, none⟩)), (1, .int .i64 k), (2, .int .i64 now), (7, s.2.1), (8, .int .i64 (s.1 : Int))]) (fun s : Nat × Value × List Blk => s.2.2 :: [(b, cel [.int .i64 every, .int .i64 limit, .int .i64 last, .slice a R.length cap] 51)] :: row :: []) (fun s : Nat × Value × List Blk => R.length - s.1) ((0, _, [(b19, .cells ⟨[]⟩ 54 (0, 0))])) (⟨by omega, fun j y hj => absurd hj (Nat.not_lt_zero j), IsSl.row (n := 0) (c := 0) (l := []) (sp := []) rfl rfl (by omega)⟩) ⟨rfl, rfl, rfl, rfl, rfl, trivial⟩ ⟨_, (take1 at0 (take1 at0 (take1 at0 take0)))⟩ (fun s hinv => ?_) 
          obtain ⟨i, lv, lrow⟩ := s
          obtain ⟨hi, hno, hlsl⟩ := hinv
          dsimp only at hi hno hlsl ⊢
          refine WP.seq <| WP.seq <| WP.region <| v0 (S0.move rfl) rfl <| v0 (S0.move rfl) rfl <| v0 (S0.nilCheck rfl) rfl <| v0 (S0.fieldAddr rfl) rfl <| v0 (S0.load rfl rfl) rfl <| v0 (S0.lenSl rfl) rfl <| v0 (S0.cmp rfl rfl rfl) rfl <| v0 (S0.move rfl) rfl <| ?_  -- guard t27 (wants True) at t28 := move t0 [if #7=True]
          first | refine csP (t := 27) rfl (fun h1 => ?_) (fun h1 => ?_) | refine csN (t := 27) rfl (fun h1 => ?_) (fun h1 => ?_) | refine cs (t := 27) rfl (fun h1 => ?_) (fun h1 => ?_)
          · skip
            rcases hrow with ⟨rfl, -⟩ | ⟨br, sp, rfl, rfl, hsp⟩
            · simp at h1; omega
            have hlt : i < R.length := by omega
            have hx : R[i]? = some R[i] := by simp [hlt]
            refine gT rfl <| v0 (S0.move rfl) rfl <| gT rfl <| v0 (S0.nilCheck rfl) rfl <| gT rfl <| v0 (S0.fieldAddr rfl) rfl <| gT rfl <| v0 (S0.load rfl rfl) rfl <| gT rfl <| v0 (S0.move rfl) rfl <| ?_  -- op t33 := indexAddr 49 t31 t32 [if #7=True]
            refine gT rfl <| v0 (S0.indexN rfl rfl hlt) rfl <| ?_
            refine gT rfl <| v0 (S0.fieldAddr rfl) rfl <| ?_  -- limit
            refine gT rfl <| v0 (S0.load rfl (flat_get (k := 2) enB_len sp R i 0 _ hx (by omega))) rfl <| ?_
            refine gT rfl <| v0 (S0.move rfl) rfl <| gT rfl <| v0 (S0.cmp rfl rfl rfl) rfl <| v0 (S0.pickT rfl rfl) rfl <| vE <| ?_  -- cond
            first | refine WP.condP rfl (fun h2 => ?_) (fun h2 => ?_) | refine WP.condN rfl (fun h2 => ?_) (fun h2 => ?_) | refine WP.cond rfl (fun h2 => ?_) (fun h2 => ?_)
            · skip
              refine WP.skip <| WP.block <| WP.seq <| WP.region <| v0 (S0.move rfl) rfl <| v0 (S0.move rfl) rfl <| v0 (S0.nilCheck rfl) rfl <| v0 (S0.fieldAddr rfl) rfl <| v0 (S0.load rfl rfl) rfl <| v0 (S0.move rfl) rfl <| ?_  -- op t45 := indexAddr 49 t43 t44
              refine v0 (S0.indexN rfl rfl hlt) rfl <| ?_
              refine v0 (S0.loadA (vs := enB R[i]) rfl (flat_take (k := 2) enB_len sp R i _ hx) rfl) rfl <| ?_
              refine vnv (S1.buildSlice rfl (qs := [(0, _)]) rfl rfl) rfl fun b47 => ?_  -- op t48 := append(t39, t47) :[49, 49]
              refine ve (S1.appendL rfl hlsl rfl rfl (atS at0) rfl rfl (by rw [flat_len enB_len, List.length_take]; simp only [List.length_cons, List.length_nil]; omega)) rfl ?_
              rintro v2 _ ⟨row2, hsl2, rfl⟩
              refine v0 (S0.assign rfl) rfl <| vE <| WP.region <| v0 (S0.move rfl) rfl <| v0 (S0.ari rfl rfl rfl (wrap_i64 (by omega))) rfl <| v0 (S0.assign rfl) rfl <| vE <| ?_  -- roundend
              have hsl3 : IsSl 54 2 v2 ((R.take (i + 1)).flatMap enB) row2 := by
                rw [List.take_add_one, hx, List.flatMap_append]; exact hsl2
              exact ⟨(i + 1, v2, row2), (by first | exact ⟨hlt, below_succ (p := fun y => y.1 < k) hno hx h2, hsl3⟩ | (dsimp only; exact ⟨hlt, below_succ (p := fun y => y.1 < k) hno hx h2, hsl3⟩)), (show R.length - (i + 1) < R.length - i by omega), ⟨⟨rfl, rfl, rfl, rfl, rfl, trivial⟩, rfl, rfl⟩, ⟨_, (take1 at0 (take1 (atS at0) (take1 (atS at0) take0)))⟩⟩
            · skip
              refine WP.exit <| ?_  -- cutend
              exact ⟨(i, lv, lrow), (by first | exact ⟨hi, hno, hlsl, fun x hx' => by rw [hx] at hx'; cases hx'; exact h2⟩ | (dsimp only; exact ⟨hi, hno, hlsl, fun x hx' => by rw [hx] at hx'; cases hx'; exact h2⟩)), ⟨⟨rfl, rfl, rfl, rfl, rfl, trivial⟩, rfl, rfl⟩, ⟨_, (take1 at0 (take1 at0 (take1 at0 take0)))⟩⟩
          · skip
            refine gF rfl rfl <| gF rfl rfl <| gF rfl rfl <| gF rfl rfl <| gF rfl rfl <| gF rfl rfl <| gF rfl rfl <| gF rfl rfl <| gF rfl rfl <| gF rfl rfl <| v0 (S0.pickF rfl rfl) rfl <| vE <| WP.condF rfl <| WP.exit <| ?_  -- cutend
            exact ⟨(i, lv, lrow), (by first | exact ⟨hi, hno, hlsl, fun x hx' => absurd (List.getElem?_eq_some_iff.1 hx').1 (by omega)⟩ | (dsimp only; exact ⟨hi, hno, hlsl, fun x hx' => absurd (List.getElem?_eq_some_iff.1 hx').1 (by omega)⟩)), ⟨⟨rfl, rfl, rfl, rfl, rfl, trivial⟩, rfl, rfl⟩, ⟨_, (take1 at0 (take1 at0 (take1 at0 take0)))⟩⟩
        · skip
          obtain ⟨i, lv, lrow⟩ := s
          obtain ⟨hi, hno, hlsl, hstop⟩ := hinv
          dsimp only at hi hno hlsl hstop ⊢
          have hll : ((R.take i).flatMap enB).length ≤ 2000000 := by rw [flat_len enB_len, List.length_take]; omega
          refine WP.seq <| WP.region <| v0 (S0.move rfl) rfl <| v0 (S0.move rfl) rfl <| v0 (S0.move rfl) rfl <| v0 (S0.build rfl (qs := [(0, _), (1, _)]) rfl) rfl <| vnv (S1.buildSlice rfl (qs := [(0, _)]) rfl rfl) rfl fun b55 => ?_  -- op t56 := append(t51, t55) :[49, 49]
          refine ve (S1.appendL rfl hlsl rfl rfl (atS at0) rfl rfl (by simp only [List.length_cons, List.length_nil]; omega)) rfl ?_
          rintro v2 _ ⟨row2, hsl2, rfl⟩
          refine v0 (S0.assign rfl) rfl <| vE <| WP.seq <| WP.region <| v0 (S0.move rfl) rfl <| v0 (S0.move rfl) rfl <| v0 (S0.nilCheck rfl) rfl <| v0 (S0.fieldAddr rfl) rfl <| v0 (S0.load rfl rfl) rfl <| v0 (S0.move rfl) rfl <| ?_  -- op t63 := slice 49 t61 t62 none none
          have e : watchE R k now = 0 := by rw [e0, hg]; rfl
          have fin : ∀ v3 row3, IsSl 54 2 v3 ((R.take i).flatMap enB ++ [.int .i64 k, .int .i64 now] ++ (R.drop i).flatMap enB) row3 → IsR b every limit last (watchR R k now) ((b, cel [.int .i64 every, .int .i64 limit, .int .i64 last, v3] 51) :: row3) := fun v3 row3 h3 => by
            rw [watchR, if_pos e, ins_at hno hi hstop]
            refine ⟨v3, row3, ?_, rfl⟩
            simpa [List.flatMap_append] using h3
          skip
          rcases hrow with ⟨rfl, rfl, rfl, rfl⟩ | ⟨br, sp, rfl, rfl, hsp⟩
          · skip
            obtain rfl : i = 0 := by simpa using hi
            refine v0 (S0.sliceN rfl rfl trivial) rfl <| ?_
            refine ve (S1.appendN rfl hsl2 rfl at0 rfl (by simp only [List.length_append, List.length_cons, List.length_nil]; omega)) rfl ?_
            rintro v3 _ ⟨row3, hsl3, rfl⟩
            refine v0 (S0.assign rfl) rfl <| vE <| WP.seq <| WP.region <| v0 (S0.move rfl) rfl <| v0 (S0.move rfl) rfl <| v0 (S0.nilCheck rfl) rfl <| v0 (S0.fieldAddr rfl) rfl <| vs (S1.store rfl rfl (by first | rfl | exact IsSl.cv (by assumption))) <| vE <| WP.seq <| WP.region <| v0 (S0.assign rfl) rfl <| vE <| WP.ret <| ?_  -- ret
            refine Leaves.drop (take1 (atS (atS at0)) (take1 at0 take0)) ?_
            refine Leaves.drop (h' := [(b, cel [.int .i64 every, .int .i64 limit, .int .i64 last, v3] 51) :: row3]) (k := []) (List.Perm.of_eq (by first | rfl | simp)) ?_
            refine r1 rfl rfl ?_
            refine ⟨by rw [e], _, rfl, fin v3 row3 (by simpa using hsl3)⟩
          · skip
            obtain ⟨hw, hle⟩ := flat_cut (k := 2) enB_len sp R i R.length cap hi (Nat.le_refl _) hcap
            refine v0 (S0.slice (i := i) (j := R.length) rfl rfl rfl ⟨hi, hcap⟩) rfl <| ?_
            have hd : (((R.drop i).take (R.length - i)).flatMap enB).length ≤ 2000000 := by rw [flat_len enB_len, List.length_take, List.length_drop]; omega
            refine ve (S1.appendS rfl hsl2 rfl hle hw at0 (flat_cv (fun _ => rfl) _) rfl (by simp only [List.length_append, List.length_cons, List.length_nil]; omega)) rfl ?_
            rintro v3 _ ⟨row3, hsl3, rfl⟩
            refine v0 (S0.assign rfl) rfl <| vE <| WP.seq <| WP.region <| v0 (S0.move rfl) rfl <| v0 (S0.move rfl) rfl <| v0 (S0.nilCheck rfl) rfl <| v0 (S0.fieldAddr rfl) rfl <| vs (S1.store rfl rfl (by first | rfl | exact IsSl.cv (by assumption))) <| vE <| WP.seq <| WP.region <| v0 (S0.assign rfl) rfl <| vE <| WP.ret <| ?_  -- ret
            refine Leaves.drop (take1 (atS (atS at0)) (take1 at0 take0)) ?_
            refine Leaves.drop (h' := [(b, cel [.int .i64 every, .int .i64 limit, .int .i64 last, v3] 51) :: row3]) (k := []) (List.Perm.of_eq (by first | rfl | simp)) ?_
            refine r1 rfl rfl ?_
            rw [show (R.drop i).take (R.length - i) = R.drop i from List.take_of_length_le (by simp)] at hsl3
            exact ⟨by rw [e], _, rfl, fin v3 row3 hsl3⟩
      · skip
        have hg := place_gB hx hk2 hno
        refine v0 (S0.cmp rfl rfl rfl) rfl <| vE <| ?_  -- cond
        refine WP.condTh rfl ((decide_eq_true (by omega))) ?_
        refine WP.seq <| WP.region <| v0 (S0.assign rfl) rfl <| vE <| WP.ret <| ?_  -- ret
        refine r1 rfl rfl ?_
        exact bad 9 (by rw [e0, hg]; rfl) (by decide)

theorem rdrop_spec {b : Nat} {every limit last : Int} {R : BM} {c : List Blk} (hc : IsR b every limit last R c) (hl : R.length ≤ 1000000) (k : Int) :
    FN Try.prog 15 [.pointer (some ⟨b, 0, none⟩), .int .i64 k] [c] (fun v h => v = .bool (gB R k).isSome ∧ ∃ c', h = [c'] ∧ IsR b every limit last (delB R k) c') := by
  refine FN.intro 33 [(0, .pointer (some ⟨b, 0, none⟩)), (1, .int .i64 k)] Try.func15 rfl (enters Try.func15 (by kernel_rfl) rfl) Try.ntmps15 rfl rfl ?_
  refine WP.seq <| WP.region <| v0 (S0.assign rfl) rfl <| vE <| WP.seq <| WP.region <| v0 (S0.move rfl) rfl <| v0 (S0.move rfl) rfl <| ?_  -- op t9 := call F28{(*rivulet/rivuletref15.Beats).place}(t7, t8)
  refine vc (S1.callF rfl (place_spec hc hl k) (take1 at0 take0)) rfl ?_
  rintro _ _ ⟨rfl, hpost⟩
  refine app ?_
  skip
  rcases hpost with ⟨rfl, hg⟩ | ⟨i, x, rfl, hi, hx, hk, hno⟩
  · skip
    refine v0 (S0.assign rfl) rfl <| vE <| WP.seq <| WP.seq <| WP.region <| v0 (S0.move rfl) rfl <| v0 (S0.cmp rfl rfl rfl) rfl <| vE <| ?_  -- cond
    refine WP.condTh rfl (rfl) ?_
    refine WP.seq <| WP.region <| v0 (S0.assign rfl) rfl <| vE <| WP.ret <| ?_  -- ret
    refine r1 rfl rfl ?_
    have hd : delB R k = R := by
      have := gB_none.1 hg
      clear hc hl hg
      induction R with
      | nil => rfl
      | cons y R ih => simp at this; simp [delB, this.1]; exact ih (by simpa using this.2)
    rw [hd, hg]
    exact ⟨rfl, _, rfl, hc⟩
  · skip
    have hg := place_gB hx hk hno
    refine v0 (S0.assign rfl) rfl <| vE <| WP.seq <| WP.seq <| WP.region <| v0 (S0.move rfl) rfl <| v0 (S0.cmp rfl rfl rfl) rfl <| vE <| ?_  -- cond
    refine WP.condFh rfl ((decide_eq_false (by omega))) ?_
    obtain ⟨v, row, hsl, rfl⟩ := hc
    obtain ⟨a, cap, rfl, hcap, hrow⟩ := IsSl.elems (k := 1) enB_len hsl
    rcases hrow with ⟨rfl, -⟩ | ⟨br, sp, rfl, rfl, hsp⟩
    · simp at hi
    refine WP.skip <| WP.seq <| WP.region <| vnv (S1.buildSlice rfl (qs := []) rfl rfl) rfl fun b12 => v0 (S0.move rfl) rfl <| v0 (S0.nilCheck rfl) rfl <| v0 (S0.fieldAddr rfl) rfl <| v0 (S0.load rfl rfl) rfl <| v0 (S0.move rfl) rfl <| ?_  -- op t18 := slice 49 t16 none t17 none
    refine v0 (S0.slice (i := 0) (j := i) rfl rfl rfl ⟨Nat.zero_le _, by omega⟩) rfl <| ?_
    obtain ⟨hw, hle⟩ := flat_cut (k := 2) enB_len sp R 0 i cap (Nat.zero_le _) (Nat.le_of_lt hi) hcap
    have hl1 : (((R.drop 0).take (i - 0)).flatMap enB).length ≤ 2000000 := by rw [flat_len enB_len, List.length_take]; simp; omega
    refine ve (S1.appendS rfl (IsSl.row (n := 0) (c := 0) (l := []) (sp := []) rfl rfl (Nat.le_refl _)) rfl hle hw at0 (flat_cv (fun _ => rfl) _) rfl (by simp only [List.length_nil]; omega)) rfl ?_
    rintro v2 _ ⟨row2, hsl2, rfl⟩
    refine v0 (S0.assign rfl) rfl <| vE <| WP.seq <| WP.region <| v0 (S0.move rfl) rfl <| v0 (S0.move rfl) rfl <| v0 (S0.nilCheck rfl) rfl <| v0 (S0.fieldAddr rfl) rfl <| v0 (S0.load rfl rfl) rfl <| v0 (S0.move rfl) rfl <| v0 (S0.ari rfl rfl rfl (wrap_i64 (by omega))) rfl <| ?_  -- op t27 := slice 49 t24 t26 none none
    refine v0 (S0.slice (i := i + 1) (j := R.length) rfl rfl rfl ⟨hi, hcap⟩) rfl <| ?_
    obtain ⟨hw2, hle2⟩ := flat_cut (k := 2) enB_len sp R (i + 1) R.length cap hi (Nat.le_refl _) hcap
    have hl2 : (((R.drop (i + 1)).take (R.length - (i + 1))).flatMap enB).length ≤ 2000000 := by rw [flat_len enB_len, List.length_take]; simp; omega
    refine ve (S1.appendS rfl hsl2 rfl hle2 hw2 at0 (flat_cv (fun _ => rfl) _) rfl (by simp only [List.length_append, List.length_nil]; omega)) rfl ?_
    rintro v3 _ ⟨row3, hsl3, rfl⟩
    refine v0 (S0.assign rfl) rfl <| vE <| WP.seq <| WP.region <| v0 (S0.move rfl) rfl <| v0 (S0.move rfl) rfl <| v0 (S0.nilCheck rfl) rfl <| v0 (S0.fieldAddr rfl) rfl <| vs (S1.store rfl rfl (by first | rfl | exact IsSl.cv (by assumption))) <| vE <| WP.seq <| WP.region <| v0 (S0.assign rfl) rfl <| vE <| WP.ret <| ?_  -- ret
    have hd : delB R k = R.take i ++ R.drop (i + 1) := del_at hno hx hk
    refine Leaves.drop (h' := [[(b, cel [.int .i64 every, .int .i64 limit, .int .i64 last, v3] 51)], row3]) (k := [[(br, .cells ⟨R.flatMap enB ++ sp⟩ 54 (0, 0))]]) ?_ ?_
    · simp
    refine Leaves.drop (h' := [(b, cel [.int .i64 every, .int .i64 limit, .int .i64 last, v3] 51) :: row3]) (k := []) (List.Perm.of_eq (by first | rfl | simp)) ?_
    refine r1 rfl rfl ?_
    refine ⟨by rw [hg]; rfl, _, rfl, v3, row3, ?_, rfl⟩
    rw [hd, List.flatMap_append]
    simpa [List.take_of_length_le] using hsl3

theorem rdue_spec {b : Nat} {every limit last : Int} {R : BM} {c : List Blk} (hc : IsR b every limit last R c) (hl : -1 ≤ last ∧ last ≤ 1099511627776) (he : 0 ≤ every ∧ every ≤ 1000) (now : Int) :
    FN Try.prog 17 [.pointer (some ⟨b, 0, none⟩), .int .i64 now] [c] (fun v h => v = .bool (dueB every last now) ∧ ∃ c', h = [c'] ∧ IsR b every limit (if dueB every last now then now else last) R c') := by
  obtain ⟨v, row, hsl, rfl⟩ := hc
  refine FN.intro 31 [(0, .pointer (some ⟨b, 0, none⟩)), (1, .int .i64 now)] Try.func17 rfl (enters Try.func17 (by kernel_rfl) rfl) Try.ntmps17 rfl rfl ?_
  refine WP.seq <| WP.region <| v0 (S0.assign rfl) rfl <| vE <| WP.seq <| WP.seq <| WP.drawP [0, 1, 2, 3, 4, 5, 6, 7, 8, 9, 10, 11, 12, 13, 14, 15, 16, 17, 18, 19, 20, 21] mixed (by kernel_rfl) (by kernel_rfl) (by kernel_rfl) (take1 at0 take0) <| w0 rfl rfl rfl (S0.move rfl) rfl <| ?_  -- op t6 := call F27{rivulet/rivuletref15.odd}(t5)
  refine wcd rfl rfl rfl (S1.callF rfl (odd_spec now) take0) rfl ?_
  refine w0 rfl rfl rfl (S0.move rfl) rfl <| ?_  -- guard t7 (wants False) at t8 := move t0 [if #2=False]
  first | refine wcsP (t := 7) rfl (fun ht => ?_) (fun ht => ?_) | refine wcsN (t := 7) rfl (fun ht => ?_) (fun ht => ?_) | refine wcs (t := 7) rfl (fun ht => ?_) (fun ht => ?_)
  · skip
    refine wF rfl rfl rfl <| wF rfl rfl rfl <| wF rfl rfl rfl <| wF rfl rfl rfl <| wF rfl rfl rfl <| wF rfl rfl rfl <| wF rfl rfl rfl <| wF rfl rfl rfl <| wF rfl rfl rfl <| wF rfl rfl rfl <| wF rfl rfl rfl <| wF rfl rfl rfl <| wF rfl rfl rfl <| wF rfl rfl rfl <| wF rfl rfl rfl <| wF rfl rfl rfl <| wF rfl rfl rfl <| wF rfl rfl rfl <| w0 rfl rfl rfl (S0.pickT rfl rfl) rfl <| wE <| WP.condT rfl <| WP.seq <| WP.region <| v0 (S0.assign rfl) rfl <| vE <| WP.ret <| ?_  -- ret
    refine r1 rfl rfl ?_
    have e : dueB every last now = false := by simp [dueB, notT ht]
    rw [e]
    exact ⟨rfl, _, rfl, _, _, hsl, rfl⟩
  · skip
    refine w0 rfl rfl rfl (S0.move rfl) rfl <| w0 rfl rfl rfl (S0.nilCheck rfl) rfl <| w0 rfl rfl rfl (S0.fieldAddr rfl) rfl <| w0 rfl rfl rfl (S0.load rfl rfl) rfl <| w0 rfl rfl rfl (S0.cmp rfl rfl rfl) rfl <| w0 rfl rfl rfl (S0.move rfl) rfl <| ?_  -- guard t13 (wants True) at t14 := move t1 [if #8=True]
    first | refine wcsP (t := 13) rfl (fun h1 => ?_) (fun h1 => ?_) | refine wcsN (t := 13) rfl (fun h1 => ?_) (fun h1 => ?_) | refine wcs (t := 13) rfl (fun h1 => ?_) (fun h1 => ?_)
    · skip
      refine w0 rfl rfl rfl (S0.move rfl) rfl <| w0 rfl rfl rfl (S0.move rfl) rfl <| w0 rfl rfl rfl (S0.nilCheck rfl) rfl <| w0 rfl rfl rfl (S0.fieldAddr rfl) rfl <| w0 rfl rfl rfl (S0.load rfl rfl) rfl <| w0 rfl rfl rfl (S0.move rfl) rfl <| w0 rfl rfl rfl (S0.nilCheck rfl) rfl <| w0 rfl rfl rfl (S0.fieldAddr rfl) rfl <| w0 rfl rfl rfl (S0.load rfl rfl) rfl <| w0 rfl rfl rfl (S0.ari rfl rfl rfl (wrap_i64 (by omega))) rfl <| w0 rfl rfl rfl (S0.cmp rfl rfl rfl) rfl <| w0 rfl rfl rfl (S0.pickT rfl rfl) rfl <| w0 rfl rfl rfl (S0.pickF rfl rfl) rfl <| wE <| ?_  -- cond
      first | refine WP.condP rfl (fun h2 => ?_) (fun h2 => ?_) | refine WP.condN rfl (fun h2 => ?_) (fun h2 => ?_) | refine WP.cond rfl (fun h2 => ?_) (fun h2 => ?_)
      · skip
        refine WP.seq <| WP.region <| v0 (S0.assign rfl) rfl <| vE <| WP.ret <| ?_  -- ret
        refine r1 rfl rfl ?_
        have e : dueB every last now = false := by simp [dueB]; omega
        rw [e]
        exact ⟨rfl, _, rfl, _, _, hsl, rfl⟩
      · skip
        refine WP.skip <| WP.seq <| WP.region <| v0 (S0.move rfl) rfl <| v0 (S0.move rfl) rfl <| v0 (S0.nilCheck rfl) rfl <| v0 (S0.fieldAddr rfl) rfl <| vs (S1.store rfl rfl (by first | rfl | exact IsSl.cv (by assumption))) <| vE <| WP.seq <| WP.region <| v0 (S0.assign rfl) rfl <| vE <| WP.ret <| ?_  -- ret
        refine r1 rfl rfl ?_
        have e : dueB every last now = true := by simp [dueB, isT ht]; omega
        rw [e]
        exact ⟨rfl, _, rfl, _, _, hsl, rfl⟩
    · skip
      refine wF rfl rfl rfl <| wF rfl rfl rfl <| wF rfl rfl rfl <| wF rfl rfl rfl <| wF rfl rfl rfl <| wF rfl rfl rfl <| wF rfl rfl rfl <| wF rfl rfl rfl <| wF rfl rfl rfl <| wF rfl rfl rfl <| wF rfl rfl rfl <| w0 rfl rfl rfl (S0.pickF rfl rfl) rfl <| w0 rfl rfl rfl (S0.pickF rfl rfl) rfl <| wE <| WP.condF rfl <| WP.skip <| WP.seq <| WP.region <| v0 (S0.move rfl) rfl <| v0 (S0.move rfl) rfl <| v0 (S0.nilCheck rfl) rfl <| v0 (S0.fieldAddr rfl) rfl <| vs (S1.store rfl rfl (by first | rfl | exact IsSl.cv (by assumption))) <| vE <| WP.seq <| WP.region <| v0 (S0.assign rfl) rfl <| vE <| WP.ret <| ?_  -- ret
      refine r1 rfl rfl ?_
      have e : dueB every last now = true := by simp [dueB, isT ht]; omega
      rw [e]
      exact ⟨rfl, _, rfl, _, _, hsl, rfl⟩

theorem rleft_spec {b : Nat} {every limit last : Int} {R : BM} {c : List Blk} (hc : IsR b every limit last R c) (ho : OkB R) (hn : R.length ≤ 1000000) (hl : 0 ≤ limit ∧ limit ≤ 1000) (k now : Int) :
    FN Try.prog 19 [.pointer (some ⟨b, 0, none⟩), .int .i64 k, .int .i64 now] [c] (is (.tuple ⟨[.int .i64 (leftB R limit k now).1, .bool (leftB R limit k now).2]⟩) [c]) := by
  refine FN.intro 47 [(0, .pointer (some ⟨b, 0, none⟩)), (1, .int .i64 k), (2, .int .i64 now)] Try.func19 rfl (enters Try.func19 (by kernel_rfl) rfl) Try.ntmps19 rfl rfl ?_
  refine WP.seq <| WP.region <| v0 (S0.assign rfl) rfl <| v0 (S0.assign rfl) rfl <| vE <| WP.seq <| WP.region <| v0 (S0.move rfl) rfl <| v0 (S0.move rfl) rfl <| ?_  -- op t12 := call F28{(*rivulet/rivuletref15.Beats).place}(t10, t11)
  refine vc (S1.callF rfl (place_spec hc hn k) (take1 at0 take0)) rfl ?_
  rintro _ _ ⟨rfl, hpost⟩
  refine app ?_
  skip
  rcases hpost with ⟨rfl, hg⟩ | ⟨i, x, rfl, hi, hx, hk, hno⟩
  · skip
    refine v0 (S0.assign rfl) rfl <| vE <| WP.seq <| WP.seq <| WP.region <| v0 (S0.move rfl) rfl <| v0 (S0.cmp rfl rfl rfl) rfl <| v0 (S0.move rfl) rfl <| ?_  -- guard t15 (wants False) at t16 := move t2 [if #2=False]
    refine csTh (t := 15) rfl (rfl) ?_
    refine gF rfl rfl <| gF rfl rfl <| v0 (S0.pickT rfl rfl) rfl <| vE <| WP.condT rfl <| WP.seq <| WP.region <| v0 (S0.assign rfl) rfl <| v0 (S0.assign rfl) rfl <| vE <| WP.ret <| ?_  -- ret
    refine r2 rfl rfl rfl ⟨?_, rfl⟩
    simp [leftB, hg]
  · skip
    have hg := place_gB hx hk hno
    have htm := ho.tm _ (gB_mem hg)
    simp only at htm
    refine v0 (S0.assign rfl) rfl <| vE <| WP.seq <| WP.seq <| WP.region <| v0 (S0.move rfl) rfl <| v0 (S0.cmp rfl rfl rfl) rfl <| v0 (S0.move rfl) rfl <| ?_  -- guard t15 (wants False) at t16 := move t2 [if #2=False]
    refine csFh (t := 15) rfl ((decide_eq_false (by omega))) ?_
    refine gT rfl <| v0 (S0.move rfl) rfl <| ?_  -- op t17 := call F27{rivulet/rivuletref15.odd}(t16) [if #2=False]
    refine gT rfl <| vcd (S1.callF rfl (odd_spec now) take0) rfl ?_
    refine v0 (S0.pickF rfl rfl) rfl <| vE <| ?_  -- cond
    first | refine WP.condP rfl (fun ht => ?_) (fun ht => ?_) | refine WP.condN rfl (fun ht => ?_) (fun ht => ?_) | refine WP.cond rfl (fun ht => ?_) (fun ht => ?_)
    · skip
      refine WP.seq <| WP.region <| v0 (S0.assign rfl) rfl <| v0 (S0.assign rfl) rfl <| vE <| WP.ret <| ?_  -- ret
      refine r2 rfl rfl rfl ⟨?_, rfl⟩
      simp [leftB, hg, notT ht]
    · skip
      obtain ⟨v, row, hsl, rfl⟩ := hc
      obtain ⟨a, cap, rfl, hcap, hrow⟩ := IsSl.elems (k := 1) enB_len hsl
      rcases hrow with ⟨rfl, -⟩ | ⟨br, sp, rfl, rfl, hsp⟩
      · simp at hi
      refine WP.skip <| WP.seq <| WP.drawP [0, 1, 2, 3, 4, 5, 6, 7, 8, 9, 10, 11, 12, 13, 14, 15] mixed (by kernel_rfl) (by kernel_rfl) (by kernel_rfl) (take1 at0 take0) <| w0 rfl rfl rfl (S0.move rfl) rfl <| w0 rfl rfl rfl (S0.nilCheck rfl) rfl <| w0 rfl rfl rfl (S0.fieldAddr rfl) rfl <| w0 rfl rfl rfl (S0.load rfl rfl) rfl <| w0 rfl rfl rfl (S0.move rfl) rfl <| ?_  -- op t24 := indexAddr 49 t22 t23
      refine w0 rfl rfl rfl (S0.indexN rfl rfl hi) rfl <| ?_
      refine w0 rfl rfl rfl (S0.fieldAddr rfl) rfl <| ?_  -- limit
      refine w0 rfl rfl rfl (S0.load rfl (flat_get (k := 2) enB_len sp R i 1 _ hx (by omega))) rfl <| ?_
      refine w0 rfl rfl rfl (S0.move rfl) rfl <| w0 rfl rfl rfl (S0.nilCheck rfl) rfl <| w0 rfl rfl rfl (S0.fieldAddr rfl) rfl <| w0 rfl rfl rfl (S0.load rfl rfl) rfl <| w0 rfl rfl rfl (S0.ari rfl rfl rfl (wrap_i64 (by omega))) rfl <| w0 rfl rfl rfl (S0.move rfl) rfl <| w0 rfl rfl rfl (S0.ari rfl rfl rfl (wrap_i64 (by omega))) rfl <| w0 rfl rfl rfl (S0.assign rfl) rfl <| wE <| WP.seq <| WP.seq <| WP.region <| v0 (S0.move rfl) rfl <| v0 (S0.cmp rfl rfl rfl) rfl <| vE <| ?_  -- cond
      first | refine WP.condP rfl (fun h1 => ?_) (fun h1 => ?_) | refine WP.condN rfl (fun h1 => ?_) (fun h1 => ?_) | refine WP.cond rfl (fun h1 => ?_) (fun h1 => ?_)
      · skip
        refine WP.region <| v0 (S0.assign rfl) rfl <| vE <| WP.seq <| WP.seq <| WP.region <| v0 (S0.move rfl) rfl <| v0 (S0.move rfl) rfl <| v0 (S0.nilCheck rfl) rfl <| v0 (S0.fieldAddr rfl) rfl <| v0 (S0.load rfl rfl) rfl <| v0 (S0.cmp rfl rfl rfl) rfl <| vE <| ?_  -- cond
        refine WP.condFh rfl ((decide_eq_false (by omega))) ?_
        refine WP.skip <| WP.seq <| WP.region <| v0 (S0.move rfl) rfl <| v0 (S0.assign rfl) rfl <| v0 (S0.assign rfl) rfl <| vE <| WP.ret <| ?_  -- ret
        refine r2 rfl rfl rfl ⟨?_, rfl⟩
        simp only [leftB, hg, isT ht, if_true]
        congr 4
        omega
      · skip
        refine WP.skip <| WP.seq <| WP.seq <| WP.region <| v0 (S0.move rfl) rfl <| v0 (S0.move rfl) rfl <| v0 (S0.nilCheck rfl) rfl <| v0 (S0.fieldAddr rfl) rfl <| v0 (S0.load rfl rfl) rfl <| v0 (S0.cmp rfl rfl rfl) rfl <| vE <| ?_  -- cond
        first | refine WP.condP rfl (fun h2 => ?_) (fun h2 => ?_) | refine WP.condN rfl (fun h2 => ?_) (fun h2 => ?_) | refine WP.cond rfl (fun h2 => ?_) (fun h2 => ?_)
        · skip
          refine WP.region <| v0 (S0.move rfl) rfl <| v0 (S0.nilCheck rfl) rfl <| v0 (S0.fieldAddr rfl) rfl <| v0 (S0.load rfl rfl) rfl <| v0 (S0.assign rfl) rfl <| vE <| WP.seq <| WP.region <| v0 (S0.move rfl) rfl <| v0 (S0.assign rfl) rfl <| v0 (S0.assign rfl) rfl <| vE <| WP.ret <| ?_  -- ret
          refine r2 rfl rfl rfl ⟨?_, rfl⟩
          simp only [leftB, hg, isT ht, if_true]
          congr 4
          omega
        · skip
          refine WP.skip <| WP.seq <| WP.region <| v0 (S0.move rfl) rfl <| v0 (S0.assign rfl) rfl <| v0 (S0.assign rfl) rfl <| vE <| WP.ret <| ?_  -- ret
          refine r2 rfl rfl rfl ⟨?_, rfl⟩
          simp only [leftB, hg, isT ht, if_true]
          congr 4
          omega

theorem rids_spec {b : Nat} {every limit last : Int} {R : BM} {c : List Blk} (hc : IsR b every limit last R c) (hn : R.length ≤ 1000000) :
    FN Try.prog 24 [.pointer (some ⟨b, 0, none⟩)] [c] (fun v h => ∃ row, IsSl 3 1 v (ints (idsB R)) row ∧ h = [row, c]) := by
  obtain ⟨v, row, hsl, rfl⟩ := hc
  obtain ⟨a, cap, rfl, hcap, hrow⟩ := IsSl.elems (k := 1) enB_len hsl
  refine FN.intro 27 [(0, .pointer (some ⟨b, 0, none⟩))] Try.func24 rfl (enters Try.func24 (by kernel_rfl) rfl) Try.ntmps24 rfl rfl ?_
  refine WP.seq <| WP.region <| v0 (S0.assign rfl) rfl <| vE <| WP.seq <| WP.region <| vnv (S1.buildSlice rfl (qs := []) rfl rfl) rfl fun b5 => v0 (S0.assign rfl) rfl <| vE <| WP.seq <| WP.seq <| WP.region <| v0 (S0.assign rfl) rfl <| vE <| WP.block <| ?_  -- Code.loop
  refine WP.loop (fun s : Nat × Value × List Blk => s.1 ≤ R.length ∧ IsSl 3 1 s.2.1 (ints (idsB (R.take s.1))) s.2.2) (fun s : Nat × Value × List Blk => [(0, .pointer (some ⟨b, 0, none⟩)), (3, s.2.1), (4, .int .i64 (s.1 : Int))]) (fun s : Nat × Value × List Blk => s.2.2 :: [(b, cel [.int .i64 every, .int .i64 limit, .int .i64 last, .slice a R.length cap] 51) :: row]) (fun s : Nat × Value × List Blk => R.length - s.1) ((0, _, [(b5, .cells ⟨[]⟩ 3 (0, 0))])) (⟨by omega, IsSl.row (n := 0) (c := 0) (l := []) (sp := []) rfl rfl (by omega)⟩) ⟨rfl, rfl, rfl, trivial⟩ ⟨_, (take1 at0 (take1 at0 take0))⟩ (fun s hinv => ?_) 
  obtain ⟨i, lv, lrow⟩ := s
  obtain ⟨hi, hlsl⟩ := hinv
  dsimp only at hi hlsl ⊢
  refine WP.seq <| WP.seq <| WP.region <| v0 (S0.move rfl) rfl <| v0 (S0.move rfl) rfl <| v0 (S0.nilCheck rfl) rfl <| v0 (S0.fieldAddr rfl) rfl <| v0 (S0.load rfl rfl) rfl <| v0 (S0.lenSl rfl) rfl <| v0 (S0.cmp rfl rfl rfl) rfl <| vE <| ?_  -- cond
  first | refine WP.condP rfl (fun h1 => ?_) (fun h1 => ?_) | refine WP.condN rfl (fun h1 => ?_) (fun h1 => ?_) | refine WP.cond rfl (fun h1 => ?_) (fun h1 => ?_)
  · skip
    rcases hrow with ⟨rfl, -⟩ | ⟨br, sp, rfl, rfl, hsp⟩
    · simp at h1; omega
    have hlt : i < R.length := by omega
    have hx : R[i]? = some R[i] := by simp [hlt]
    refine WP.skip <| WP.seq <| WP.block <| WP.region <| v0 (S0.move rfl) rfl <| v0 (S0.move rfl) rfl <| v0 (S0.nilCheck rfl) rfl <| v0 (S0.fieldAddr rfl) rfl <| v0 (S0.load rfl rfl) rfl <| v0 (S0.move rfl) rfl <| ?_  -- op t21 := indexAddr 49 t19 t20
    refine v0 (S0.indexN rfl rfl hlt) rfl <| ?_
    refine v0 (S0.fieldAddr rfl) rfl <| ?_  -- limit
    refine v0 (S0.load rfl (flat_get (k := 2) enB_len sp R i 0 _ hx (by omega))) rfl <| ?_
    refine vnv (S1.buildSlice rfl (qs := [(0, _)]) rfl rfl) rfl fun b24 => ?_  -- op t25 := append(t15, t24) :[37, 37]
    refine ve (S1.appendL rfl hlsl rfl rfl (atS at0) rfl rfl (by simp [ints, idsB]; omega)) rfl ?_
    rintro v2 _ ⟨row2, hsl2, rfl⟩
    refine v0 (S0.assign rfl) rfl <| vE <| WP.region <| v0 (S0.move rfl) rfl <| v0 (S0.ari rfl rfl rfl (wrap_i64 (by omega))) rfl <| v0 (S0.assign rfl) rfl <| vE <| ?_  -- roundend
    have hsl3 : IsSl 3 1 v2 (ints (idsB (R.take (i + 1)))) row2 := by
      have e : ints (idsB (R.take (i + 1))) = ints (idsB (R.take i)) ++ [.int .i64 R[i].1] := by rw [List.take_add_one, hx]; simp only [Option.toList, idsB, ints, List.map_append, List.map_cons, List.map_nil]
      rw [e]; exact hsl2
    exact ⟨(i + 1, v2, row2), (by first | exact ⟨hlt, hsl3⟩ | (dsimp only; exact ⟨hlt, hsl3⟩)), (show R.length - (i + 1) < R.length - i by omega), ⟨⟨rfl, rfl, rfl, trivial⟩, rfl, rfl⟩, ⟨_, (take1 at0 (take1 (atS at0) take0))⟩⟩
  · skip
    refine WP.exit <| WP.seq <| WP.region <| v0 (S0.move rfl) rfl <| v0 (S0.assign rfl) rfl <| vE <| WP.ret <| ?_  -- ret
    refine r1 rfl rfl ?_
    refine ⟨lrow, ?_, rfl⟩
    rw [List.take_of_length_le (by omega)] at hlsl
    exact hlsl

theorem rlate_spec {b : Nat} {every limit last : Int} {R : BM} {c : List Blk} (hc : IsR b every limit last R c) (ho : OkB R) (hn : R.length ≤ 1000000) (hl : 0 ≤ limit ∧ limit ≤ 1000) (now : Int) :
    FN Try.prog 22 [.pointer (some ⟨b, 0, none⟩), .int .i64 now] [c] (fun v h => ∃ row, IsSl 3 1 v (ints (lateB R limit now)) row ∧ h = [row, c]) := by
  obtain ⟨v, row, hsl, rfl⟩ := hc
  obtain ⟨a, cap, rfl, hcap, hrow⟩ := IsSl.elems (k := 1) enB_len hsl
  refine FN.intro 49 [(0, .pointer (some ⟨b, 0, none⟩)), (1, .int .i64 now)] Try.func22 rfl (enters Try.func22 (by kernel_rfl) rfl) Try.ntmps22 rfl rfl ?_
  refine WP.seq <| WP.region <| v0 (S0.assign rfl) rfl <| vE <| WP.seq <| WP.region <| vnv (S1.buildSlice rfl (qs := []) rfl rfl) rfl fun b7 => v0 (S0.assign rfl) rfl <| vE <| WP.seq <| WP.seq <| WP.region <| v0 (S0.assign rfl) rfl <| vE <| WP.block <| ?_  -- Code.loop
  refine WP.loop (fun s : Nat × Value × List Blk => s.1 ≤ R.length ∧ (isTime now = false → s.1 = 0) ∧ IsSl 3 1 s.2.1 (ints (lateB (R.take s.1) limit now)) s.2.2) (fun s : Nat × Value × List Blk => [(0, .pointer (some ⟨b, 0, none⟩)), (1, .int .i64 now), (5, s.2.1), (6, .int .i64 (s.1 : Int))]) (fun s : Nat × Value × List Blk => s.2.2 :: [(b, cel [.int .i64 every, .int .i64 limit, .int .i64 last, .slice a R.length cap] 51) :: row]) (fun s : Nat × Value × List Blk => R.length - s.1) ((0, _, [(b7, .cells ⟨[]⟩ 3 (0, 0))])) (⟨by omega, fun _ => rfl, by have := IsSl.row (E := 3) (k := 1) (b := b7) (n := 0) (c := 0) (l := []) (sp := []) rfl rfl (by omega); simpa [lateB, ints] using this⟩) ⟨rfl, rfl, rfl, rfl, trivial⟩ ⟨_, (take1 at0 (take1 at0 take0))⟩ (fun s hinv => ?_) 
  obtain ⟨i, lv, lrow⟩ := s
  obtain ⟨hi, hz, hlsl⟩ := hinv
  dsimp only at hi hz hlsl ⊢
  have hlen : (ints (lateB (R.take i) limit now)).length ≤ 1000000 := by
    rw [ints_len, lateB]; split
    · rw [List.length_map]; have := List.length_filter_le (fun x : Int × Int => decide (limit ≤ now - x.2)) (R.take i); rw [List.length_take] at this; omega
    · simp
  refine WP.seq <| WP.seq <| WP.region <| v0 (S0.move rfl) rfl <| v0 (S0.move rfl) rfl <| v0 (S0.nilCheck rfl) rfl <| v0 (S0.fieldAddr rfl) rfl <| v0 (S0.load rfl rfl) rfl <| v0 (S0.lenSl rfl) rfl <| v0 (S0.cmp rfl rfl rfl) rfl <| v0 (S0.move rfl) rfl <| ?_  -- guard t15 (wants True) at t16 := move t1 [if #7=True]
  first | refine csP (t := 15) rfl (fun h1 => ?_) (fun h1 => ?_) | refine csN (t := 15) rfl (fun h1 => ?_) (fun h1 => ?_) | refine cs (t := 15) rfl (fun h1 => ?_) (fun h1 => ?_)
  · skip
    rcases hrow with ⟨rfl, -⟩ | ⟨br, sp, rfl, rfl, hsp⟩
    · simp at h1; omega
    have hlt : i < R.length := by omega
    have hx : R[i]? = some R[i] := by simp [hlt]
    have htm := ho.tm _ (List.getElem_mem hlt)
    refine gT rfl <| v0 (S0.move rfl) rfl <| ?_  -- op t17 := call F27{rivulet/rivuletref15.odd}(t16) [if #7=True]
    refine gT rfl <| vcd (S1.callF rfl (odd_spec now) take0) rfl ?_
    refine gT rfl <| v0 (S0.not rfl) rfl <| v0 (S0.pickT rfl rfl) rfl <| vE <| ?_  -- cond
    first | refine WP.condP rfl (fun ht => ?_) (fun ht => ?_) | refine WP.condN rfl (fun ht => ?_) (fun ht => ?_) | refine WP.cond rfl (fun ht => ?_) (fun ht => ?_)
    · skip
      have hT : isTime now = true := by simpa using ht
      have htn := isTime_iff.1 hT
      refine WP.skip <| WP.seq <| WP.block <| WP.seq <| WP.drawP [0, 1, 2, 3, 4, 5, 6, 7, 8, 9, 10, 11, 12, 13, 14] mixed (by kernel_rfl) (by kernel_rfl) (by kernel_rfl) (take1 (atS at0) take0) <| w0 rfl rfl rfl (S0.move rfl) rfl <| w0 rfl rfl rfl (S0.nilCheck rfl) rfl <| w0 rfl rfl rfl (S0.fieldAddr rfl) rfl <| w0 rfl rfl rfl (S0.load rfl rfl) rfl <| w0 rfl rfl rfl (S0.move rfl) rfl <| ?_  -- op t27 := indexAddr 49 t25 t26
      refine w0 rfl rfl rfl (S0.indexN rfl rfl hlt) rfl <| ?_
      refine w0 rfl rfl rfl (S0.fieldAddr rfl) rfl <| ?_  -- limit
      refine w0 rfl rfl rfl (S0.load rfl (flat_get (k := 2) enB_len sp R i 1 _ hx (by omega))) rfl <| ?_
      refine w0 rfl rfl rfl (S0.move rfl) rfl <| w0 rfl rfl rfl (S0.nilCheck rfl) rfl <| w0 rfl rfl rfl (S0.fieldAddr rfl) rfl <| w0 rfl rfl rfl (S0.load rfl rfl) rfl <| w0 rfl rfl rfl (S0.ari rfl rfl rfl (wrap_i64 (by omega))) rfl <| w0 rfl rfl rfl (S0.move rfl) rfl <| w0 rfl rfl rfl (S0.cmp rfl rfl rfl) rfl <| wE <| ?_  -- cond
      have e1 : ints (lateB (R.take (i + 1)) limit now) = ints (lateB (R.take i) limit now) ++ (if limit ≤ now - R[i].2 then [.int .i64 R[i].1] else []) := by
        rw [List.take_add_one, hx]
        simp only [lateB, hT, if_true, Option.toList, List.filter_append, List.map_append, ints]
        congr 1
        by_cases hh : limit ≤ now - R[i].2 <;> simp [hh]
      first | refine WP.condP rfl (fun h2 => ?_) (fun h2 => ?_) | refine WP.condN rfl (fun h2 => ?_) (fun h2 => ?_) | refine WP.cond rfl (fun h2 => ?_) (fun h2 => ?_)
      · skip
        refine WP.region <| v0 (S0.move rfl) rfl <| v0 (S0.move rfl) rfl <| v0 (S0.nilCheck rfl) rfl <| v0 (S0.fieldAddr rfl) rfl <| v0 (S0.load rfl rfl) rfl <| v0 (S0.move rfl) rfl <| ?_  -- op t43 := indexAddr 49 t41 t42
        refine v0 (S0.indexN rfl rfl hlt) rfl <| ?_
        refine v0 (S0.fieldAddr rfl) rfl <| ?_  -- limit
        refine v0 (S0.load rfl (flat_get (k := 2) enB_len sp R i 0 _ hx (by omega))) rfl <| ?_
        refine vnv (S1.buildSlice rfl (qs := [(0, _)]) rfl rfl) rfl fun b46 => ?_  -- op t47 := append(t37, t46) :[37, 37]
        refine ve (S1.appendL rfl hlsl rfl rfl (atS (atS at0)) rfl rfl (by simp only [List.length_cons, List.length_nil]; omega)) rfl ?_
        rintro v2 _ ⟨row2, hsl2, rfl⟩
        refine v0 (S0.assign rfl) rfl <| vE <| WP.region <| v0 (S0.move rfl) rfl <| v0 (S0.ari rfl rfl rfl (wrap_i64 (by omega))) rfl <| v0 (S0.assign rfl) rfl <| vE <| ?_  -- roundend
        have hsl3 : IsSl 3 1 v2 (ints (lateB (R.take (i + 1)) limit now)) row2 := by
          rw [e1, if_pos (by omega)]; exact hsl2
        exact ⟨(i + 1, v2, row2), (by first | exact ⟨hlt, fun h => (by rw [hT] at h; cases h), hsl3⟩ | (dsimp only; exact ⟨hlt, fun h => (by rw [hT] at h; cases h), hsl3⟩)), (show R.length - (i + 1) < R.length - i by omega), ⟨⟨rfl, rfl, rfl, rfl, trivial⟩, rfl, rfl⟩, ⟨_, (take1 at0 (take1 (atS at0) take0))⟩⟩
      · skip
        refine WP.skip <| WP.region <| v0 (S0.move rfl) rfl <| v0 (S0.ari rfl rfl rfl (wrap_i64 (by omega))) rfl <| v0 (S0.assign rfl) rfl <| vE <| ?_  -- roundend
        have hsl3 : IsSl 3 1 lv (ints (lateB (R.take (i + 1)) limit now)) lrow := by
          rw [e1, if_neg (by omega)]; simpa using hlsl
        exact ⟨(i + 1, lv, lrow), (by first | exact ⟨hlt, fun h => (by rw [hT] at h; cases h), hsl3⟩ | (dsimp only; exact ⟨hlt, fun h => (by rw [hT] at h; cases h), hsl3⟩)), (show R.length - (i + 1) < R.length - i by omega), ⟨⟨rfl, rfl, rfl, rfl, trivial⟩, rfl, rfl⟩, ⟨_, (take1 (atS at0) (take1 at0 take0))⟩⟩
    · skip
      refine WP.exit <| WP.seq <| WP.region <| v0 (S0.move rfl) rfl <| v0 (S0.assign rfl) rfl <| vE <| WP.ret <| ?_  -- ret
      refine r1 rfl rfl ?_
      have hT : isTime now = false := by simpa using ht
      refine ⟨lrow, ?_, rfl⟩
      have e1 : ∀ R, lateB R limit now = [] := fun R => by simp [lateB, hT]
      rw [e1] at hlsl ⊢
      exact hlsl
  · skip
    refine gF rfl rfl <| gF rfl rfl <| gF rfl rfl <| v0 (S0.pickF rfl rfl) rfl <| vE <| WP.condF rfl <| WP.exit <| WP.seq <| WP.region <| v0 (S0.move rfl) rfl <| v0 (S0.assign rfl) rfl <| vE <| WP.ret <| ?_  -- ret
    refine r1 rfl rfl ?_
    refine ⟨lrow, ?_, rfl⟩
    rw [List.take_of_length_le (by omega)] at hlsl
    exact hlsl

theorem ints_spec {v1 v2 : Value} {q1 q2 : List Blk} {a b : List Int} (h1 : IsSl 3 1 v1 (ints a) q1) (h2 : IsSl 3 1 v2 (ints b) q2) (ha : a.length ≤ 1000000000) : FN Try.prog 20 [v1, v2] [q1, q2] (is (.bool (decide (a = b))) [q1, q2]) := by
  obtain ⟨a1, c1, rfl, hc1, hr1⟩ := h1.intsE
  obtain ⟨a2, c2, rfl, hc2, hr2⟩ := h2.intsE
  refine FN.intro 26 [(0, .slice a1 a.length c1), (1, .slice a2 b.length c2)] Try.func20 rfl (enters Try.func20 (by kernel_rfl) rfl) Try.ntmps20 rfl rfl ?_
  refine WP.seq <| WP.region <| v0 (S0.assign rfl) rfl <| vE <| WP.seq <| WP.seq <| WP.region <| v0 (S0.move rfl) rfl <| v0 (S0.lenSl rfl) rfl <| v0 (S0.move rfl) rfl <| v0 (S0.lenSl rfl) rfl <| v0 (S0.cmp rfl rfl rfl) rfl <| vE <| ?_  -- cond
  first | refine WP.condP rfl (fun hl => ?_) (fun hl => ?_) | refine WP.condN rfl (fun hl => ?_) (fun hl => ?_) | refine WP.cond rfl (fun hl => ?_) (fun hl => ?_)
  · skip
    refine WP.seq <| WP.region <| v0 (S0.assign rfl) rfl <| vE <| WP.ret <| ?_  -- ret
    refine r1 rfl rfl ⟨?_, rfl⟩
    have : a ≠ b := fun e => hl (by rw [e])
    simp [this]
  · skip
    refine WP.skip <| WP.seq <| WP.seq <| WP.region <| v0 (S0.assign rfl) rfl <| vE <| WP.block <| ?_  -- Code.loop
    refine WP.loop (fun i : Nat => i ≤ a.length ∧ a.take i = b.take i) (fun i : Nat => [(0, .slice a1 a.length c1), (1, .slice a2 b.length c2), (5, .int .i64 (i : Int))]) (fun i : Nat => [q1, q2]) (fun i : Nat => a.length - i) (0) (⟨by omega, rfl⟩) ⟨rfl, rfl, rfl, trivial⟩ ⟨_, (take1 at0 (take1 at0 take0))⟩ (fun i hinv => ?_) 
    obtain ⟨hi, htk⟩ := hinv
    refine WP.seq <| WP.seq <| WP.region <| v0 (S0.move rfl) rfl <| v0 (S0.move rfl) rfl <| v0 (S0.lenSl rfl) rfl <| v0 (S0.cmp rfl rfl rfl) rfl <| vE <| ?_  -- cond
    first | refine WP.condP rfl (fun h3 => ?_) (fun h3 => ?_) | refine WP.condN rfl (fun h3 => ?_) (fun h3 => ?_) | refine WP.cond rfl (fun h3 => ?_) (fun h3 => ?_)
    · skip
      have hlt : i < a.length := by omega
      have hlt2 : i < b.length := by omega
      rcases hr1 with ⟨rfl, -⟩ | ⟨b1, sp1, rfl, rfl, hsp1⟩
      · simp at hlt
      rcases hr2 with ⟨rfl, -⟩ | ⟨b2, sp2, rfl, rfl, hsp2⟩
      · simp at hlt2
      have hx : a[i]? = some a[i] := by simp [hlt]
      have hy : b[i]? = some b[i] := by simp [hlt2]
      refine WP.skip <| WP.seq <| WP.block <| WP.seq <| WP.drawP [0, 1, 2, 3, 4, 5, 6, 7, 8] mixed (by kernel_rfl) (by kernel_rfl) (by kernel_rfl) (take1 at0 (take1 at0 take0)) <| w0 rfl rfl rfl (S0.move rfl) rfl <| w0 rfl rfl rfl (S0.move rfl) rfl <| ?_  -- op t19 := indexAddr 37 t17 t18
      refine w0 rfl rfl rfl (S0.index1 rfl rfl hlt) rfl <| ?_
      refine w0 rfl rfl rfl (S0.load rfl (ints_get hx)) rfl <| ?_
      refine w0 rfl rfl rfl (S0.move rfl) rfl <| w0 rfl rfl rfl (S0.move rfl) rfl <| ?_  -- op t23 := indexAddr 37 t21 t22
      refine w0 rfl rfl rfl (S0.index1 rfl rfl hlt2) rfl <| ?_
      refine w0 rfl rfl rfl (S0.load rfl (ints_get hy)) rfl <| ?_
      refine w0 rfl rfl rfl (S0.cmp rfl rfl rfl) rfl <| wE <| ?_  -- cond
      first | refine WP.condP rfl (fun h4 => ?_) (fun h4 => ?_) | refine WP.condN rfl (fun h4 => ?_) (fun h4 => ?_) | refine WP.cond rfl (fun h4 => ?_) (fun h4 => ?_)
      · skip
        refine WP.seq <| WP.region <| v0 (S0.assign rfl) rfl <| vE <| WP.ret <| ?_  -- ret
        refine r1 rfl rfl ⟨?_, rfl⟩
        have : a ≠ b := fun e => h4 (by subst e; rfl)
        simp [this]
      · skip
        refine WP.skip <| WP.region <| v0 (S0.move rfl) rfl <| v0 (S0.ari rfl rfl rfl (wrap_i64 (by omega))) rfl <| v0 (S0.assign rfl) rfl <| vE <| ?_  -- roundend
        exact ⟨i + 1, (by first | exact ⟨hlt, by rw [List.take_add_one, List.take_add_one, hx, hy, htk]; congr 2; simpa using h4⟩ | (dsimp only; exact ⟨hlt, by rw [List.take_add_one, List.take_add_one, hx, hy, htk]; congr 2; simpa using h4⟩)), (by omega), ⟨⟨rfl, rfl, rfl, trivial⟩, rfl, rfl⟩, ⟨_, (take1 at0 (take1 at0 take0))⟩⟩
    · skip
      refine WP.exit <| WP.seq <| WP.region <| v0 (S0.assign rfl) rfl <| vE <| WP.ret <| ?_  -- ret
      refine r1 rfl rfl ⟨?_, rfl⟩
      have : a = b := by
        rw [List.take_of_length_le (by omega), List.take_of_length_le (by omega)] at htk
        exact htk
      simp [this]
end Go.Proofs.Ytmnmikcpdhnbnaa
