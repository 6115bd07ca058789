import Derived.Test.YtgcclpfpnfmjcaaDoorM3
namespace Go.Proofs.YtgcclpfpnfmjcaaDoor
open Go

theorem idxSe_spec {g : Nat} {caps : List Value} {c cr cj : List Blk} {p : List Se → Se → Bool} {l : List Se} {v : Value} {J : List Se → List Blk → Prop} (hr : Rd 7 seB v l c) (hl : l.length ≤ 1000000) (hj : J [] cj)
    (hc : ∀ pre x cj, J pre cj → FN Tryd.prog g (.agg ⟨seB x⟩ :: caps) [cj, cr] (fun v h => v = .bool (p pre x) ∧ ∃ cj', h = [cj', cr] ∧ J (pre ++ [x]) cj')) :
    FN Tryd.prog 30 [v, .func (.func g) ⟨[]⟩ ⟨caps⟩] [c, cj, cr] (fun v h => v = .int .i64 (idxF p [] l) ∧ ∃ cj', h = [c, cj', cr]) := by
  obtain ⟨a, cap, rfl, hcap, hr⟩ := hr
  refine FN.intro 19 [(0, .slice a l.length cap), (1, .func (.func g) ⟨[]⟩ ⟨caps⟩)] Tryd.func30 rfl (enters Tryd.func30 (by kernel_rfl) rfl) Tryd.ntmps30 rfl rfl ?_
  refine WP.seq <| WP.region <| v0 (S0.assign rfl) rfl <| vE <| WP.seq <| WP.seq <| WP.region <| v0 (S0.move rfl) rfl <| v0 (S0.lenSl rfl) rfl <| v0 (S0.move rfl) rfl <| vE <| WP.block <| ?_  -- Code.loop
  refine WP.loop (fun st : Nat × List Blk => st.1 ≤ l.length ∧ J (l.take st.1) st.2 ∧ idxF p [] l = idxF p (l.take st.1) (l.drop st.1)) (fun st : Nat × List Blk => [(0, .slice a l.length cap), (1, .func (.func g) ⟨[]⟩ ⟨caps⟩), (7, .int .i64 (l.length : Int)), (8, .int .i64 (st.1 : Int))]) (fun st : Nat × List Blk => [c, st.2, cr]) (fun st : Nat × List Blk => l.length - st.1) ((0, cj)) (⟨Nat.zero_le _, hj, rfl⟩) ⟨rfl, rfl, rfl, rfl, trivial⟩ ⟨_, (take1 at0 (take1 at0 (take1 at0 take0)))⟩ (fun st hinv => ?_) 
  obtain ⟨i, ci⟩ := st
  obtain ⟨hi, hJ, hidx⟩ := hinv
  dsimp only at hi hJ hidx ⊢
  refine WP.seq <| WP.region <| v0 (S0.cmp rfl rfl rfl) rfl <| vE <| WP.seq <| ?_  -- cond
  first | refine WP.condP rfl (fun h1 => ?_) (fun h1 => ?_) | refine WP.condN rfl (fun h1 => ?_) (fun h1 => ?_) | refine WP.cond rfl (fun h1 => ?_) (fun h1 => ?_)
  · skip
    have hlt : i < l.length := by omega
    rcases hr with e | ⟨b, o, GL, U, fz, rfl, hmem, hel⟩
    · rw [e] at hlt; simp at hlt
    have : HasC c b (.cells ⟨GL⟩ U fz) := ⟨hmem⟩
    have hx : l[i]? = some l[i] := by simp [hlt]
    rw [drop_cons hx] at hidx
    generalize l[i] = x at hx hidx
    simp only [idxF, List.length_take, Nat.min_eq_left hi] at hidx
    refine WP.skip <| WP.seq <| WP.block <| WP.seq <| WP.region <| v0 (S0.move rfl) rfl <| v0 (S0.assign rfl) rfl <| vE <| WP.seq <| WP.region <| v0 (S0.move rfl) rfl <| v0 (S0.move rfl) rfl <| v0 (S0.move rfl) rfl <| ?_  -- op t14 := indexAddr 23 t12 t13
    refine v0 (S0.indexO rfl rfl hlt) rfl <| ?_
    refine v0 (S0.loadA (vs := seB x) rfl (hel i x hx) rfl) rfl <| ?_
    -- (nothing to walk: op t16 := call t11(t15))
    refine vc (S1.callC rfl rfl rfl (hc (l.take i) x ci hJ) (take1 (atS at0) (take1 (atS at0) take0))) rfl ?_
    rintro _ _ ⟨rfl, cj2, rfl, hJ2⟩
    refine app ?_
    refine vE <| ?_  -- cond
    first | refine WP.condP rfl (fun h2 => ?_) (fun h2 => ?_) | refine WP.condN rfl (fun h2 => ?_) (fun h2 => ?_) | refine WP.cond rfl (fun h2 => ?_) (fun h2 => ?_)
    · skip
      refine WP.seq <| WP.region <| v0 (S0.move rfl) rfl <| v0 (S0.assign rfl) rfl <| vE <| WP.ret <| ?_  -- ret
      refine Leaves.drop (take1 (atS (atS at0)) (take1 at0 (take1 at0 take0))) ?_
      refine r1 rfl rfl ?_
      exact ⟨by rw [hidx, if_pos h2], cj2, rfl⟩
    · skip
      refine WP.skip <| WP.region <| v0 (S0.ari rfl rfl rfl (wrap_i64 (by omega))) rfl <| v0 (S0.move rfl) rfl <| vE <| ?_  -- roundend
      exact ⟨(i + 1, cj2), (by first | exact ⟨hlt, by rw [take_snoc hx]; exact hJ2, by rw [hidx, take_snoc hx, h2]; rfl⟩ | (dsimp only; exact ⟨hlt, by rw [take_snoc hx]; exact hJ2, by rw [hidx, take_snoc hx, h2]; rfl⟩)), (show l.length - (i + 1) < l.length - i by omega), ⟨⟨rfl, rfl, rfl, rfl, trivial⟩, rfl, rfl⟩, ⟨_, (take1 (atS (atS at0)) (take1 at0 (take1 at0 take0)))⟩⟩
  · skip
    refine WP.exit <| WP.seq <| WP.region <| v0 (S0.assign rfl) rfl <| vE <| WP.ret <| ?_  -- ret
    refine r1 rfl rfl ?_
    exact ⟨by rw [hidx, List.drop_eq_nil_of_le (by omega)]; rfl, ci, rfl⟩
theorem wrong_spec {tv v : Value} {t : List Ev} {l : List Se} {ct c : List Blk} (ht : Rd 5 evB tv t ct) (hr : Rd 7 seB v l c) (htl : t.length ≤ 1000000) (hl : l.length ≤ 1000000) : FN Tryd.prog 16 [tv, v] [ct, c] (is (.int .i64 (wrongI t l)) [ct, c]) := by
  have ht' := ht
  have hr' := hr
  obtain ⟨ta, tcap, rfl, -, -⟩ := ht
  obtain ⟨a, cap, rfl, -, -⟩ := hr
  refine FN.intro 10 [(0, .slice ta t.length tcap), (1, .slice a l.length cap)] Tryd.func16 rfl (enters Tryd.func16 (by kernel_rfl) rfl) Tryd.ntmps16 rfl rfl ?_
  refine WP.seq <| WP.region <| vn (S1.box rfl rfl) rfl fun b2 => v0 (S0.assign rfl) rfl <| vE <| WP.seq <| WP.region <| vnv (S1.makeMap) rfl fun b6 => vn (S1.alloc) rfl fun b5 => vs (S1.store rfl rfl (by first | rfl | exact IsSl.cv (by assumption))) <| vE <| WP.seq <| WP.region <| v0 (S0.move rfl) rfl <| v0 (S0.makeFunc rfl rfl) rfl <| ?_  -- op t9 := call F30{slices.IndexFunc[[]rivulet/model.Seen,rivulet/model.Seen]}(t7, t8)
  refine WO.perm (take1 at0 (take1 at0 (take1 at0 (take1 (atS at0) (take1 at0 take0))))) ?_
  refine WO.perm (h' := [[(b5, cel [.map (some b6)] 60), (b6, mapO keyV [] 0), (b2, cel [.slice ta t.length tcap] 22)], c, ct]) (k := []) (List.Perm.of_eq (by first | rfl | simp)) ?_
  have hj : WSt b5 b2 (.slice ta t.length tcap) [] [(b5, cel [.map (some b6)] 60), (b6, mapO keyV [] 0), (b2, cel [.slice ta t.length tcap] 22)] := ⟨b6, [], 0, ⟨.nil, fun k => rfl⟩, rfl⟩
  refine vc (S1.callF rfl (idxSe_spec (p := wrongAt t) (cr := ct) (J := WSt b5 b2 (.slice ta t.length tcap)) hr' hl hj (fun pre x cj h => wrong1_spec ht' htl h x)) (take1 (atS at0) (take1 at0 (take1 at0 take0)))) rfl ?_
  rintro _ _ ⟨rfl, cj2, rfl⟩
  refine app ?_
  refine v0 (S0.assign rfl) rfl <| vE <| WP.ret <| ?_  -- ret
  refine Leaves.drop (take1 (atS (atS at0)) (take1 at0 take0)) ?_
  refine r1 rfl rfl ?_
  exact ⟨rfl, rfl⟩

/-! the document's answer -/
theorem bad_spec {tv v : Value} {t : List Ev} {l : List Se} {ct c : List Blk} (ht : Rd 5 evB tv t ct) (hr : Rd 7 seB v l c) (htl : t.length ≤ 1000000) (hl : l.length ≤ 1000000) {i : Nat} {x : Se} (hx : l[i]? = some x) :
    FN Tryd.prog 35 [tv, v, .int .i64 (i : Int)] [ct, c] (is (.bool (wrongAt t (l.take i) x)) [ct, c]) := by
  obtain ⟨ta, tcap, rfl, -, ht⟩ := ht
  obtain ⟨a, cap, rfl, -, hr⟩ := hr
  have hlt : i < l.length := (List.getElem?_eq_some_iff.1 hx).1
  rcases hr with e | ⟨b, o, GL, U, fz, rfl, hmem, hel⟩
  · rw [e] at hlt; simp at hlt
  have : HasC c b (.cells ⟨GL⟩ U fz) := ⟨hmem⟩
  have hele := hel i x hx
  refine FN.intro 90 [(0, .slice ta t.length tcap), (1, .slice (some ⟨b, o, none⟩) l.length cap), (2, .int .i64 (i : Int))] Tryd.func35 rfl (enters Tryd.func35 (by kernel_rfl) rfl) Tryd.ntmps35 rfl rfl ?_
  refine WP.seq <| WP.region <| v0 (S0.assign rfl) rfl <| vE <| WP.seq <| WP.region <| v0 (S0.move rfl) rfl <| v0 (S0.move rfl) rfl <| ?_  -- op t14 := indexAddr 25 t12 t13
  refine v0 (S0.indexO rfl rfl hlt) rfl <| ?_
  refine v0 (S0.loadA (vs := seB x) rfl hele rfl) rfl <| ?_
  refine vn (S1.alloc) rfl fun b7 => vs (S1.storeA rfl rfl rfl) <| v0 (S0.assign rfl) rfl <| vE <| WP.seq <| WP.seq <| WP.region <| v0 (S0.assign rfl) rfl <| vE <| WP.block <| ?_  -- Code.loop
  refine WP.loop (fun st : Nat × Bool => st.1 ≤ t.length ∧ st.2 = fromB (t.take st.1) x.v) (fun st : Nat × Bool => [(0, .slice ta t.length tcap), (1, .slice (some ⟨b, o, none⟩) l.length cap), (2, .int .i64 (i : Int)), (7, .pointer (some ⟨b7, 0, none⟩)), (8, .bool st.2), (9, .int .i64 (st.1 : Int))]) (fun st : Nat × Bool => [[(b7, cel (seB x) 51)], ct, c]) (fun st : Nat × Bool => t.length - st.1) ((0, false)) (⟨Nat.zero_le _, rfl⟩) ⟨rfl, rfl, rfl, rfl, rfl, rfl, trivial⟩ ⟨_, (take1 at0 (take1 at0 (take1 at0 take0)))⟩ (fun st hinv => ?_) 
  obtain ⟨k, ok⟩ := st
  obtain ⟨hk, hok⟩ := hinv
  dsimp only at hk hok ⊢
  refine WP.seq <| WP.seq <| WP.region <| v0 (S0.move rfl) rfl <| v0 (S0.move rfl) rfl <| v0 (S0.lenSl rfl) rfl <| v0 (S0.cmp rfl rfl rfl) rfl <| vE <| ?_  -- cond
  first | refine WP.condP rfl (fun h1 => ?_) (fun h1 => ?_) | refine WP.condN rfl (fun h1 => ?_) (fun h1 => ?_) | refine WP.cond rfl (fun h1 => ?_) (fun h1 => ?_)
  · skip
    have hlt2 : k < t.length := by omega
    rcases ht with e | ⟨tb, to, TL, TU, tfz, rfl, htm, htel⟩
    · rw [e] at hlt2; simp at hlt2
    have : HasC ct tb (.cells ⟨TL⟩ TU tfz) := ⟨htm⟩
    have hy : t[k]? = some t[k] := by simp [hlt2]
    generalize t[k] = y at hy
    have htey := htel k y hy
    have hstep : fromB (t.take (k + 1)) x.v = (ok || (sameE y x.v && decide (x.v.e ≤ y.e))) := by
      rw [take_snoc hy, fromB, List.any_append, hok]; simp [fromB]
    skip
    refine WP.skip <| WP.seq <| WP.block <| WP.drawP [(0, none), (1, none), (2, none), (3, none), (4, none), (5, none), (6, none), (7, none), (8, none), (9, none), (10, none), (11, none), (12, none), (13, none), (14, none), (15, none), (16, none), (17, none), (18, none), (19, none), (20, none), (21, none)] mixed (by kernel_rfl) (by kernel_rfl) (by kernel_rfl) (take1 at0 (take1 at0 take0)) <| w0 rfl rfl rfl (S0.move rfl) rfl <| w0 rfl rfl rfl (S0.move rfl) rfl <| ?_  -- guard t23 (wants False) at t24 := move t0 [if #1=False]
    cases ok with
    | true =>
      skip
      skip
      refine wcsTh (t := 23) rfl (rfl) ?_
      refine wF rfl rfl rfl rfl <| wF rfl rfl rfl rfl <| wF rfl rfl rfl rfl <| wF rfl rfl rfl rfl <| wF rfl rfl rfl rfl <| wF rfl rfl rfl rfl <| wF rfl rfl rfl rfl <| wF rfl rfl rfl rfl <| wF rfl rfl rfl rfl <| wF rfl rfl rfl rfl <| wF rfl rfl rfl rfl <| wF rfl rfl rfl rfl <| wF rfl rfl rfl rfl <| wF rfl rfl rfl rfl <| wF rfl rfl rfl rfl <| wF rfl rfl rfl rfl <| wF rfl rfl rfl rfl <| wF rfl rfl rfl rfl <| w0 rfl rfl rfl (S0.pickT rfl rfl) rfl <| w0 rfl rfl rfl (S0.assign rfl) rfl <| wE <| WP.region <| v0 (S0.move rfl) rfl <| v0 (S0.ari rfl rfl rfl (wrap_i64 (by omega))) rfl <| v0 (S0.assign rfl) rfl <| vE <| ?_  -- roundend
      exact ⟨(k + 1, true), (by first | exact ⟨hlt2, by rw [hstep]; rfl⟩ | (dsimp only; exact ⟨hlt2, by rw [hstep]; rfl⟩)), (show t.length - (k + 1) < t.length - k by omega), ⟨⟨rfl, rfl, rfl, rfl, rfl, rfl, trivial⟩, rfl, rfl⟩, ⟨_, (take1 at0 (take1 at0 (take1 at0 take0)))⟩⟩
    | false =>
      skip
      refine wcsFh (t := 23) rfl (rfl) ?_
      refine w0 rfl rfl rfl (S0.move rfl) rfl <| w0 rfl rfl rfl (S0.move rfl) rfl <| ?_  -- op t26 := indexAddr 22 t24 t25 [if #1=False]
      refine w0 rfl rfl rfl (S0.indexO rfl rfl hlt2) rfl <| ?_
      refine w0 rfl rfl rfl (S0.loadA (vs := evB y) rfl htey rfl) rfl <| ?_
      refine w0 rfl rfl rfl (S0.fieldAddr rfl) rfl <| w0 rfl rfl rfl (S0.loadAL rfl) rfl <| ?_  -- op t30 := call F51{rivulet/rivuletref06.Same}(t27, t29) [if #1=False]
      refine wcd rfl rfl rfl rfl (S1.callF rfl (rsame_spec y x.v) take0) rfl ?_
      refine w0 rfl rfl rfl (S0.move rfl) rfl <| ?_  -- guard t31 (wants True) at t32 := move t0 [if #9=True]
      first | refine wcsP (t := 31) rfl (fun h2 => ?_) (fun h2 => ?_) | refine wcsN (t := 31) rfl (fun h2 => ?_) (fun h2 => ?_) | refine wcs (t := 31) rfl (fun h2 => ?_) (fun h2 => ?_)
      · skip
        refine w0 rfl rfl rfl (S0.move rfl) rfl <| w0 rfl rfl rfl (S0.move rfl) rfl <| ?_  -- op t34 := indexAddr 22 t32 t33 [if #9=True]
        refine w0 rfl rfl rfl (S0.indexO rfl rfl hlt2) rfl <| ?_
        refine w0 rfl rfl rfl (S0.fieldAddr rfl) rfl <| ?_  -- limit
        refine w0 rfl rfl rfl (S0.load rfl (rd_get (k := 5) htey (j := 4) (by omega))) rfl <| ?_
        refine w0 rfl rfl rfl (S0.fieldAddr rfl) rfl <| w0 rfl rfl rfl (S0.fieldAddr rfl) rfl <| w0 rfl rfl rfl (S0.load rfl rfl) rfl <| w0 rfl rfl rfl (S0.cmp rfl rfl rfl) rfl <| w0 rfl rfl rfl (S0.pickT rfl rfl) rfl <| w0 rfl rfl rfl (S0.pickF rfl rfl) rfl <| w0 rfl rfl rfl (S0.assign rfl) rfl <| wE <| WP.region <| v0 (S0.move rfl) rfl <| v0 (S0.ari rfl rfl rfl (wrap_i64 (by omega))) rfl <| v0 (S0.assign rfl) rfl <| vE <| ?_  -- roundend
        exact ⟨(k + 1, decide (x.v.e ≤ y.e)), (by first | exact ⟨hlt2, by rw [hstep, h2]; rfl⟩ | (dsimp only; exact ⟨hlt2, by rw [hstep, h2]; rfl⟩)), (show t.length - (k + 1) < t.length - k by omega), ⟨⟨rfl, rfl, rfl, rfl, rfl, rfl, trivial⟩, rfl, rfl⟩, ⟨_, (take1 at0 (take1 at0 (take1 at0 take0)))⟩⟩
      · skip
        refine wF rfl rfl rfl rfl <| wF rfl rfl rfl rfl <| wF rfl rfl rfl rfl <| wF rfl rfl rfl rfl <| wF rfl rfl rfl rfl <| wF rfl rfl rfl rfl <| wF rfl rfl rfl rfl <| wF rfl rfl rfl rfl <| wF rfl rfl rfl rfl <| w0 rfl rfl rfl (S0.pickF rfl rfl) rfl <| w0 rfl rfl rfl (S0.pickF rfl rfl) rfl <| w0 rfl rfl rfl (S0.assign rfl) rfl <| wE <| WP.region <| v0 (S0.move rfl) rfl <| v0 (S0.ari rfl rfl rfl (wrap_i64 (by omega))) rfl <| v0 (S0.assign rfl) rfl <| vE <| ?_  -- roundend
        exact ⟨(k + 1, false), (by first | exact ⟨hlt2, by rw [hstep, h2]; rfl⟩ | (dsimp only; exact ⟨hlt2, by rw [hstep, h2]; rfl⟩)), (show t.length - (k + 1) < t.length - k by omega), ⟨⟨rfl, rfl, rfl, rfl, rfl, rfl, trivial⟩, rfl, rfl⟩, ⟨_, (take1 at0 (take1 at0 (take1 at0 take0)))⟩⟩
  · skip
    rw [List.take_of_length_le (by omega)] at hok
    subst hok
    refine WP.exit <| WP.seq <| WP.seq <| WP.region <| v0 (S0.assign rfl) rfl <| vE <| WP.block <| ?_  -- Code.loop
    refine WP.loop (fun k : Nat => k ≤ i ∧ (l.take k).any (fun y => decide (keyS y = keyS x) && decide (x.v.s ≤ y.v.s)) = false) (fun k : Nat => [(0, .slice ta t.length tcap), (1, .slice (some ⟨b, o, none⟩) l.length cap), (2, .int .i64 (i : Int)), (7, .pointer (some ⟨b7, 0, none⟩)), (8, .bool (fromB t x.v)), (10, .int .i64 (k : Int))]) (fun k : Nat => [[(b7, cel (seB x) 51)], ct, c]) (fun k : Nat => i - k) (0) (⟨Nat.zero_le _, rfl⟩) ⟨rfl, rfl, rfl, rfl, rfl, rfl, trivial⟩ ⟨_, (take1 at0 (take1 at0 (take1 at0 take0)))⟩ (fun k hinv => ?_) 
    obtain ⟨hk, hno⟩ := hinv
    refine WP.seq <| WP.seq <| WP.region <| v0 (S0.move rfl) rfl <| v0 (S0.move rfl) rfl <| v0 (S0.cmp rfl rfl rfl) rfl <| vE <| ?_  -- cond
    first | refine WP.condP rfl (fun h2 => ?_) (fun h2 => ?_) | refine WP.condN rfl (fun h2 => ?_) (fun h2 => ?_) | refine WP.cond rfl (fun h2 => ?_) (fun h2 => ?_)
    · skip
      have hlt2 : k < l.length := by omega
      have hy : l[k]? = some l[k] := by simp [hlt2]
      generalize l[k] = y at hy
      have hely := hel k y hy
      have hstep : (l.take (k + 1)).any (fun y => decide (keyS y = keyS x) && decide (x.v.s ≤ y.v.s)) = (decide (keyS y = keyS x) && decide (x.v.s ≤ y.v.s)) := by
        rw [take_snoc hy, List.any_append, hno]; simp
      have hkey : keyS y = keyS x ↔ y.n = x.n ∧ y.d = x.d ∧ y.v.o = x.v.o := by simp [keyS]
      have hbad : (decide (keyS y = keyS x) && decide (x.v.s ≤ y.v.s)) = true → true = wrongAt t (l.take i) x := fun e => by
        have hin : (l.take i).any (fun y => decide (keyS y = keyS x) && decide (x.v.s ≤ y.v.s)) = true :=
          List.any_eq_true.2 ⟨y, by rw [List.mem_take_iff_getElem]; obtain ⟨h1, h2⟩ := List.getElem?_eq_some_iff.1 hy; exact ⟨k, by omega, h2⟩, e⟩
        simp [wrongAt, hin]
      refine WP.skip <| WP.seq <| WP.block <| WP.seq <| WP.region <| v0 (S0.move rfl) rfl <| v0 (S0.move rfl) rfl <| ?_  -- op t50 := indexAddr 25 t48 t49
      refine v0 (S0.indexO rfl rfl hlt2) rfl <| ?_
      refine v0 (S0.loadA (vs := seB y) rfl hely rfl) rfl <| ?_
      refine vn (S1.alloc) rfl fun b11 => vs (S1.storeA rfl rfl rfl) <| vE <| WP.seq <| WP.region <| v0 (S0.fieldAddr rfl) rfl <| v0 (S0.load rfl rfl) rfl <| v0 (S0.fieldAddr rfl) rfl <| v0 (S0.load rfl rfl) rfl <| v0 (S0.cmp rfl rfl rfl) rfl <| v0 (S0.move rfl) rfl <| ?_  -- guard t57 (wants True) at t58 := fieldAddr 51 t11 1 [if #5=True]
      first | refine csP (t := 57) rfl (fun hq0 => ?_) (fun hq0 => ?_) | refine csN (t := 57) rfl (fun hq0 => ?_) (fun hq0 => ?_) | refine cs (t := 57) rfl (fun hq0 => ?_) (fun hq0 => ?_)
      ·
        refine gT rfl <| v0 (S0.fieldAddr rfl) rfl <| gT rfl <| v0 (S0.load rfl rfl) rfl <| gT rfl <| v0 (S0.fieldAddr rfl) rfl <| gT rfl <| v0 (S0.load rfl rfl) rfl <| gT rfl <| v0 (S0.cmp rfl rfl rfl) rfl <| v0 (S0.pickT rfl rfl) rfl <| v0 (S0.move rfl) rfl <| ?_
        first | refine csP (t := 64) rfl (fun hq1 => ?_) (fun hq1 => ?_) | refine csN (t := 64) rfl (fun hq1 => ?_) (fun hq1 => ?_) | refine cs (t := 64) rfl (fun hq1 => ?_) (fun hq1 => ?_)
        ·
          refine gT rfl <| v0 (S0.fieldAddr rfl) rfl <| gT rfl <| v0 (S0.fieldAddr rfl) rfl <| gT rfl <| v0 (S0.load rfl rfl) rfl <| gT rfl <| v0 (S0.fieldAddr rfl) rfl <| gT rfl <| v0 (S0.fieldAddr rfl) rfl <| gT rfl <| v0 (S0.load rfl rfl) rfl <| gT rfl <| v0 (S0.cmp rfl rfl rfl) rfl <| v0 (S0.pickT rfl rfl) rfl <| v0 (S0.move rfl) rfl <| ?_
          first | refine csP (t := 73) rfl (fun hq2 => ?_) (fun hq2 => ?_) | refine csN (t := 73) rfl (fun hq2 => ?_) (fun hq2 => ?_) | refine cs (t := 73) rfl (fun hq2 => ?_) (fun hq2 => ?_)
          ·
            refine gT rfl <| v0 (S0.fieldAddr rfl) rfl <| gT rfl <| v0 (S0.fieldAddr rfl) rfl <| gT rfl <| v0 (S0.load rfl rfl) rfl <| gT rfl <| v0 (S0.fieldAddr rfl) rfl <| gT rfl <| v0 (S0.fieldAddr rfl) rfl <| gT rfl <| v0 (S0.load rfl rfl) rfl <| gT rfl <| v0 (S0.cmp rfl rfl rfl) rfl <| v0 (S0.pickT rfl rfl) rfl <| vE <| ?_
            first | refine WP.condP rfl (fun hq3 => ?_) (fun hq3 => ?_) | refine WP.condN rfl (fun hq3 => ?_) (fun hq3 => ?_) | refine WP.cond rfl (fun hq3 => ?_) (fun hq3 => ?_)
            ·
              refine WP.seq <| WP.region <| v0 (S0.assign rfl) rfl <| vE <| WP.ret <| ?_
              refine Leaves.drop (take1 (atS (atS at0)) (take1 (atS (atS at0)) take0)) ?_
              refine r1 rfl rfl ⟨?_, rfl⟩
              exact congrArg Value.bool (hbad (by simp [hkey, *]))
            ·
              refine WP.skip <| WP.region <| v0 (S0.move rfl) rfl <| v0 (S0.ari rfl rfl rfl (wrap_i64 (by omega))) rfl <| v0 (S0.assign rfl) rfl <| vE <| ?_
              exact ⟨k + 1, (by first | exact ⟨by omega, by rw [hstep]; simp [hkey, *]⟩ | (dsimp only; exact ⟨by omega, by rw [hstep]; simp [hkey, *]⟩)), (by omega), ⟨⟨rfl, rfl, rfl, rfl, rfl, rfl, trivial⟩, rfl, rfl⟩, ⟨_, (take1 (atS at0) (take1 (atS at0) (take1 (atS at0) take0)))⟩⟩
          ·
            refine gF rfl rfl <| gF rfl rfl <| gF rfl rfl <| gF rfl rfl <| gF rfl rfl <| gF rfl rfl <| gF rfl rfl <| v0 (S0.pickF rfl rfl) rfl <| vE <| WP.condF rfl <| WP.skip <| WP.region <| v0 (S0.move rfl) rfl <| v0 (S0.ari rfl rfl rfl (wrap_i64 (by omega))) rfl <| v0 (S0.assign rfl) rfl <| vE <| ?_
            exact ⟨k + 1, (by first | exact ⟨by omega, by rw [hstep]; simp [hkey, *]⟩ | (dsimp only; exact ⟨by omega, by rw [hstep]; simp [hkey, *]⟩)), (by omega), ⟨⟨rfl, rfl, rfl, rfl, rfl, rfl, trivial⟩, rfl, rfl⟩, ⟨_, (take1 (atS at0) (take1 (atS at0) (take1 (atS at0) take0)))⟩⟩
        ·
          refine gF rfl rfl <| gF rfl rfl <| gF rfl rfl <| gF rfl rfl <| gF rfl rfl <| gF rfl rfl <| gF rfl rfl <| v0 (S0.pickF rfl rfl) rfl <| v0 (S0.move rfl) rfl <| gF rfl rfl <| gF rfl rfl <| gF rfl rfl <| gF rfl rfl <| gF rfl rfl <| gF rfl rfl <| gF rfl rfl <| v0 (S0.pickF rfl rfl) rfl <| vE <| WP.condF rfl <| WP.skip <| WP.region <| v0 (S0.move rfl) rfl <| v0 (S0.ari rfl rfl rfl (wrap_i64 (by omega))) rfl <| v0 (S0.assign rfl) rfl <| vE <| ?_
          exact ⟨k + 1, (by first | exact ⟨by omega, by rw [hstep]; simp [hkey, *]⟩ | (dsimp only; exact ⟨by omega, by rw [hstep]; simp [hkey, *]⟩)), (by omega), ⟨⟨rfl, rfl, rfl, rfl, rfl, rfl, trivial⟩, rfl, rfl⟩, ⟨_, (take1 (atS at0) (take1 (atS at0) (take1 (atS at0) take0)))⟩⟩
      ·
        refine gF rfl rfl <| gF rfl rfl <| gF rfl rfl <| gF rfl rfl <| gF rfl rfl <| v0 (S0.pickF rfl rfl) rfl <| v0 (S0.move rfl) rfl <| gF rfl rfl <| gF rfl rfl <| gF rfl rfl <| gF rfl rfl <| gF rfl rfl <| gF rfl rfl <| gF rfl rfl <| v0 (S0.pickF rfl rfl) rfl <| v0 (S0.move rfl) rfl <| gF rfl rfl <| gF rfl rfl <| gF rfl rfl <| gF rfl rfl <| gF rfl rfl <| gF rfl rfl <| gF rfl rfl <| v0 (S0.pickF rfl rfl) rfl <| vE <| WP.condF rfl <| WP.skip <| WP.region <| v0 (S0.move rfl) rfl <| v0 (S0.ari rfl rfl rfl (wrap_i64 (by omega))) rfl <| v0 (S0.assign rfl) rfl <| vE <| ?_
        exact ⟨k + 1, (by first | exact ⟨by omega, by rw [hstep]; simp [hkey, *]⟩ | (dsimp only; exact ⟨by omega, by rw [hstep]; simp [hkey, *]⟩)), (by omega), ⟨⟨rfl, rfl, rfl, rfl, rfl, rfl, trivial⟩, rfl, rfl⟩, ⟨_, (take1 (atS at0) (take1 (atS at0) (take1 (atS at0) take0)))⟩⟩
    · skip
      rw [show k = i by omega] at hno
      refine WP.exit <| WP.seq <| WP.region <| v0 (S0.move rfl) rfl <| v0 (S0.not rfl) rfl <| v0 (S0.move rfl) rfl <| ?_
      first | refine csP (t := 84) rfl (fun hq0 => ?_) (fun hq0 => ?_) | refine csN (t := 84) rfl (fun hq0 => ?_) (fun hq0 => ?_) | refine cs (t := 84) rfl (fun hq0 => ?_) (fun hq0 => ?_)
      ·
        refine gF rfl rfl <| gF rfl rfl <| gF rfl rfl <| gF rfl rfl <| v0 (S0.pickT rfl rfl) rfl <| v0 (S0.assign rfl) rfl <| vE <| WP.ret <| ?_
        refine Leaves.drop (take1 (atS at0) (take1 (atS at0) take0)) ?_
        refine r1 rfl rfl ⟨?_, rfl⟩
        exact congrArg Value.bool (by simp [wrongAt, hno, *])
      ·
        refine gT rfl <| v0 (S0.fieldAddr rfl) rfl <| gT rfl <| v0 (S0.fieldAddr rfl) rfl <| gT rfl <| v0 (S0.load rfl rfl) rfl <| gT rfl <| v0 (S0.cmp rfl rfl rfl) rfl <| v0 (S0.pickF rfl rfl) rfl <| v0 (S0.assign rfl) rfl <| vE <| WP.ret <| ?_
        refine Leaves.drop (take1 (atS at0) (take1 (atS at0) take0)) ?_
        refine r1 rfl rfl ⟨?_, rfl⟩
        exact congrArg Value.bool (by simp [wrongAt, hno, *])
theorem rwrong_spec {tv v : Value} {t : List Ev} {l : List Se} {ct c : List Blk} (ht : Rd 5 evB tv t ct) (hr : Rd 7 seB v l c) (htl : t.length ≤ 1000000) (hl : l.length ≤ 1000000) : FN Tryd.prog 17 [tv, v] [ct, c] (is (.int .i64 (wrongI t l)) [ct, c]) := by
  have ht' := ht
  have hr' := hr
  obtain ⟨ta, tcap, rfl, -, -⟩ := ht
  obtain ⟨a, cap, rfl, -, -⟩ := hr
  refine FN.intro 17 [(0, .slice ta t.length tcap), (1, .slice a l.length cap)] Tryd.func17 rfl (enters Tryd.func17 (by kernel_rfl) rfl) Tryd.ntmps17 rfl rfl ?_
  refine WP.seq <| WP.region <| v0 (S0.assign rfl) rfl <| vE <| WP.seq <| WP.seq <| WP.region <| v0 (S0.assign rfl) rfl <| vE <| WP.block <| ?_  -- Code.loop
  refine WP.loop (fun i : Nat => i ≤ l.length ∧ wrongI t l = idxF (wrongAt t) (l.take i) (l.drop i)) (fun i : Nat => [(0, .slice ta t.length tcap), (1, .slice a l.length cap), (5, .int .i64 (i : Int))]) (fun i : Nat => [ct, c]) (fun i : Nat => l.length - i) (0) (⟨Nat.zero_le _, rfl⟩) ⟨rfl, rfl, rfl, trivial⟩ ⟨_, (take1 at0 (take1 at0 take0))⟩ (fun i hinv => ?_) 
  obtain ⟨hi, hidx⟩ := hinv
  refine WP.seq <| WP.seq <| WP.region <| v0 (S0.move rfl) rfl <| v0 (S0.move rfl) rfl <| v0 (S0.lenSl rfl) rfl <| v0 (S0.cmp rfl rfl rfl) rfl <| vE <| ?_  -- cond
  first | refine WP.condP rfl (fun h1 => ?_) (fun h1 => ?_) | refine WP.condN rfl (fun h1 => ?_) (fun h1 => ?_) | refine WP.cond rfl (fun h1 => ?_) (fun h1 => ?_)
  · skip
    have hlt : i < l.length := by omega
    have hx : l[i]? = some l[i] := by simp [hlt]
    rw [drop_cons hx] at hidx
    generalize l[i] = x at hx hidx
    simp only [idxF, List.length_take, Nat.min_eq_left hi] at hidx
    refine WP.skip <| WP.seq <| WP.block <| WP.seq <| WP.region <| v0 (S0.move rfl) rfl <| v0 (S0.move rfl) rfl <| v0 (S0.move rfl) rfl <| ?_  -- op t15 := call F35{rivulet/rivuletref22.bad}(t12, t13, t14)
    refine vcd (S1.callF rfl (bad_spec ht' hr' htl hl hx) (take1 at0 (take1 at0 take0))) rfl ?_
    refine vE <| ?_  -- cond
    first | refine WP.condP rfl (fun h2 => ?_) (fun h2 => ?_) | refine WP.condN rfl (fun h2 => ?_) (fun h2 => ?_) | refine WP.cond rfl (fun h2 => ?_) (fun h2 => ?_)
    · skip
      refine WP.seq <| WP.region <| v0 (S0.move rfl) rfl <| v0 (S0.assign rfl) rfl <| vE <| WP.ret <| ?_  -- ret
      refine r1 rfl rfl ⟨?_, rfl⟩
      rw [hidx, if_pos h2]
    · skip
      refine WP.skip <| WP.region <| v0 (S0.move rfl) rfl <| v0 (S0.ari rfl rfl rfl (wrap_i64 (by omega))) rfl <| v0 (S0.assign rfl) rfl <| vE <| ?_  -- roundend
      exact ⟨i + 1, (by first | exact ⟨hlt, by rw [hidx, take_snoc hx, h2]; rfl⟩ | (dsimp only; exact ⟨hlt, by rw [hidx, take_snoc hx, h2]; rfl⟩)), (by omega), ⟨⟨rfl, rfl, rfl, trivial⟩, rfl, rfl⟩, ⟨_, (take1 at0 (take1 at0 take0))⟩⟩
  · skip
    refine WP.exit <| WP.seq <| WP.region <| v0 (S0.assign rfl) rfl <| vE <| WP.ret <| ?_  -- ret
    refine r1 rfl rfl ⟨?_, rfl⟩
    rw [hidx, List.drop_eq_nil_of_le (by omega)]; rfl
end Go.Proofs.YtgcclpfpnfmjcaaDoor
