import Derived.Test.YtgcclpfpnfmjcaaDoorM11
import Derived.Test.YtgcclpfpnfmjcaaDoorInt
namespace Go.Proofs.YtgcclpfpnfmjcaaDoor
open Go

section
variable {P : Program} {f : Fr} {d : Option Tmp} {ty : TypeId} {p : String} {af : Array Edge} {gd : Option (Nat × Bool)} {SL : List Blk} {T E : TypeId} {x : Operand} {k by_ : Nat} {zv : Value}
/-- a cut of a slice, whatever its base -/
theorem S0.sliceG {a : Option Addr} {n c : Nat} {lo hi : Option Operand} {i j : Nat} [kk : Und P T (.slice E)] [ki : Inf P E k by_ zv] (hx : ev f x = some (.slice a n c))
    (hlo : match lo with | none => i = 0 | some y => ev f y = some (.int .i64 i)) (hhi : match hi with | none => j = n | some y => ev f y = some (.int .i64 j)) (hij : i ≤ j ∧ j ≤ c) :
    S0 P f SL ⟨d, .slice T x lo hi none, ty, p, af, gd⟩ (.slice (if c = i then a else a.map (·.add (i * k))) (j - i) (c - i)) :=
  S0.pure (by intro c; simp) (by intro c; simp) fun ρ w k' => by
    obtain ⟨h1, h2⟩ := hij
    have e1 : ∀ (bd : BoundsCode) (m : Nat), j ≤ m → (Instr.sliceBound (.int .i64 j) m bd).run P w = .ok j w := fun bd m hm => by
      simp only [Instr.sliceBound, asIntOf, Sem.run_bind, Sem.run_pure, Result.andThen_ok]
      rw [if_pos ⟨by omega, by omega⟩]; simp
    have e2 : ∀ (bd : BoundsCode) (m : Nat), i ≤ m → (Instr.sliceBound (.int .i64 i) m bd).run P w = .ok i w := fun bd m hm => by
      simp only [Instr.sliceBound, asIntOf, Sem.run_bind, Sem.run_pure, Result.andThen_ok]
      rw [if_pos ⟨by omega, by omega⟩]; simp
    have eb : (Instr.sliceBounds true n c (lo.map ρ) (hi.map ρ) none).run P w = .ok (i, j, c) w := by
      cases lo with
      | none => cases hi with
        | none => simp only at hlo hhi; subst hlo hhi; simp [Instr.sliceBounds]
        | some yh => simp only at hlo hhi; subst hlo; simp [Instr.sliceBounds, k' _ _ hhi, e1 _ c h2]
      | some yl => cases hi with
        | none => simp only at hlo hhi; subst hhi; simp [Instr.sliceBounds, k' _ _ hlo, e2 _ j h1]
        | some yh => simp only at hlo hhi; simp [Instr.sliceBounds, k' _ _ hlo, k' _ _ hhi, e1 _ c h2, e2 _ j h1]
    simp only [execOp, k' _ _ hx, Instr.sliceAt, Sem.run_bind, run_underlying kk.eq, Result.andThen_ok, Instr.slice, Option.map_none, eb, run_sizeOf (k := ki), Sem.run_pure]
end
theorem Rd.cutG {α : Type} {k : Nat} {en : α → List Value} {a : Option Addr} {n cap : Nat} {R : List α} {c : List Blk} (h : Rd k en (.slice a n cap) R c) (i j : Nat) (hij : i ≤ j) (hj : j ≤ R.length) :
    n = R.length ∧ n ≤ cap ∧ Rd k en (.slice (if cap = i then a else a.map (·.add (i * k))) (j - i) (cap - i)) ((R.drop i).take (j - i)) c := by
  obtain ⟨a', cap', e, hc, h⟩ := h
  simp only [Value.slice.injEq] at e
  obtain ⟨rfl, rfl, rfl⟩ := e
  have hlen : ((R.drop i).take (j - i)).length = j - i := by simp; omega
  refine ⟨rfl, hc, _, _, by rw [hlen], by rw [hlen]; omega, ?_⟩
  by_cases h0 : j = i
  · left; subst h0; simp
  right
  rcases h with h | ⟨b', o', L, U, fz, rfl, e2, e3⟩
  · subst h; simp at hj; omega
  · rw [if_neg (by omega)]
    refine ⟨b', o' + i * k, L, U, fz, ?_, e2, fun m x hx => ?_⟩
    · simp only [Option.map_some, Addr.add]
      split <;> simp_all
    · have hm : m < j - i := by have := (List.getElem?_eq_some_iff.1 hx).1; omega
      rw [List.getElem?_take_of_lt hm, List.getElem?_drop] at hx
      have := e3 (i + m) x hx
      rw [Nat.add_mul, ← Nat.add_assoc] at this
      exact this

theorem miss_len (t : List Ev) (l : List Se) (n d : Int) (f : Str) : (missB t l n d f).length ≤ t.length := List.length_filter_le _ _
theorem modelMisses_walk (W : World) (tv : Value) (ht : ArgF W evK tv) (sv' : Value) (hs : ArgF W seK sv') (f : Str) (hf : f.length ≤ maxLen) : FN Tryd.prog 4 [tv, sv', sv f] [whole W] (fun v h => v = .bool true ∧ h = [whole W]) := by
  obtain ⟨t0, hrt, htw⟩ := argEv ht
  obtain ⟨s0, hrs, hsw⟩ := argSe hs
  have hok := cutEs_ok htw
  have htl := cutEs_len t0
  have hsl := cutSs_len s0
  refine FN.intro 62 [(0, tv), (1, sv'), (2, sv f)] Tryd.func4 rfl (enters Tryd.func4 (by kernel_rfl) rfl) Tryd.ntmps4 rfl rfl ?_
  refine WP.seq <| WP.region <| v0 (S0.assign rfl) rfl <| vE <| WP.seq <| WP.region <| v0 (S0.move rfl) rfl <| ?_  -- op t13 := call F9{rivulet/rivuletlaw22.Events}(t12)
  refine vc (S1.callF rfl (events_spec hrt) (take1 at0 take0)) rfl ?_
  rintro t _ ⟨trow, ht, rfl⟩
  refine app ?_
  refine v0 (S0.assign rfl) rfl <| vE <| WP.seq <| WP.region <| v0 (S0.move rfl) rfl <| ?_  -- op t16 := call F10{rivulet/rivuletlaw22.both}(t15)
  refine vc (S1.callF rfl (both_spec hrs) (take1 (atS at0) take0)) rfl ?_
  rintro _ _ ⟨va, vb, ra, rb, rfl, ha, hb, rfl⟩
  refine app ?_
  generalize cutEs t0 = T at hok htl ht
  generalize cutSs s0 = S at hsl ha hb
  have hT := IsSl.rd evB_len ht
  have hA := IsSl.rd seB_len ha
  have hB := IsSl.rd seB_len hb
  have hA' := hA
  obtain ⟨aa, ac, rfl, -, har⟩ := hA'
  refine v0 (S0.move rfl) rfl <| v0 (S0.extract rfl rfl) rfl <| v0 (S0.extract rfl rfl) rfl <| v0 (S0.assign rfl) rfl <| v0 (S0.assign rfl) rfl <| vE <| WP.seq <| WP.region <| v0 (S0.move rfl) rfl <| v0 (S0.move rfl) rfl <| v0 (S0.lenSt rfl) rfl <| v0 (S0.min2 rfl rfl rfl) rfl <| ?_  -- op t23 := slice 9 t19 none t22 none
  rw [min120]
  refine v0 (S0.sliceSt (i := 0) (j := min f.length 120) rfl rfl rfl ⟨Nat.zero_le _, by omega⟩) rfl <| ?_
  have hf120 : ((f.drop 0).take (min f.length 120 - 0)).length ≤ 800000 := by simp; omega
  generalize (f.drop 0).take (min f.length 120 - 0) = F at hf120
  refine v0 (S0.assign rfl) rfl <| vE <| WP.seq <| WP.region <| v0 (S0.assign rfl) rfl <| v0 (S0.assign rfl) rfl <| vE <| WP.seq <| ?_  -- cut
  refine WP.cutT (fun st : Int × Int => True) (fun st : Int × Int => [(2, sv F), (7, t), (8, .slice aa S.length ac), (9, vb), (10, .int .i64 st.1), (11, .int .i64 st.2)]) (fun st : Int × Int => [ra, rb, whole W, trow]) ?_ (fun st hinv => ?_)
  · refine WP.seq <| WP.region <| v0 (S0.move rfl) rfl <| v0 (S0.lenSl rfl) rfl <| v0 (S0.cmp rfl rfl rfl) rfl <| vE <| ?_  -- cond
    first | refine WP.condP rfl (fun h1 => ?_) (fun h1 => ?_) | refine WP.condN rfl (fun h1 => ?_) (fun h1 => ?_) | refine WP.cond rfl (fun h1 => ?_) (fun h1 => ?_)
    · skip
      have hlt : 0 < S.length := by omega
      rcases har with e | ⟨b, o, GL, U, fz, rfl, hmem, hel⟩
      · rw [e] at hlt; simp at hlt
      have : HasC ra b (.cells ⟨GL⟩ U fz) := ⟨hmem⟩
      have hx : S[0]? = some S[0] := by simp [hlt]
      generalize S[0] = x at hx
      have hele := hel 0 x hx
      refine WP.seq <| WP.region <| v0 (S0.move rfl) rfl <| ?_  -- op t28 := indexAddr 23 t27 0:i64
      refine v0 (S0.indexO (i := 0) rfl rfl hlt) rfl <| ?_
      refine v0 (S0.fieldAddr rfl) rfl <| ?_  -- limit
      refine v0 (S0.load rfl (rd_get (k := 7) hele (j := 0) (by omega))) rfl <| ?_
      refine v0 (S0.assign rfl) rfl <| vE <| WP.region <| v0 (S0.move rfl) rfl <| ?_  -- op t32 := indexAddr 23 t31 0:i64
      refine v0 (S0.indexO (i := 0) rfl rfl hlt) rfl <| ?_
      refine v0 (S0.fieldAddr rfl) rfl <| ?_  -- limit
      refine v0 (S0.load rfl (rd_get (k := 7) hele (j := 1) (by omega))) rfl <| ?_
      refine v0 (S0.assign rfl) rfl <| vE <| ?_  -- cutend
      exact ⟨(x.n, x.d), (by first | exact trivial | (dsimp only; exact trivial)), ⟨⟨rfl, rfl, rfl, rfl, rfl, rfl, trivial⟩, rfl, rfl⟩, ⟨_, (take1 at0 (take1 at0 (take1 at0 (take1 at0 take0))))⟩⟩
    · skip
      refine WP.skip <| ?_  -- cutend
      exact ⟨(0, 0), (by first | exact trivial | (dsimp only; exact trivial)), ⟨⟨rfl, rfl, rfl, rfl, rfl, rfl, trivial⟩, rfl, rfl⟩, ⟨_, (take1 at0 (take1 at0 (take1 at0 (take1 at0 take0))))⟩⟩
  · skip
    obtain ⟨n, d⟩ := st
    dsimp only
    have hml := miss_len T S n d F
    refine WP.seq <| WP.region <| v0 (S0.move rfl) rfl <| v0 (S0.move rfl) rfl <| v0 (S0.move rfl) rfl <| v0 (S0.move rfl) rfl <| v0 (S0.move rfl) rfl <| ?_  -- op t40 := call F20{rivulet/model.Missing}(t35, t36, t37, t38, t39)
    refine vc (S1.callF rfl (missing_spec hT hA hok (by omega) (by omega) n d hf120) (take1 (atS (atS (atS at0))) (take1 at0 take0))) rfl ?_
    rintro m1 _ ⟨row1, h1, rfl⟩
    refine app ?_
    refine v0 (S0.move rfl) rfl <| v0 (S0.move rfl) rfl <| v0 (S0.move rfl) rfl <| v0 (S0.move rfl) rfl <| v0 (S0.move rfl) rfl <| ?_  -- op t46 := call F21{rivulet/rivuletref22.Missing}(t41, t42, t43, t44, t45)
    refine vc (S1.callF rfl (rmissing_spec hT hB hok (by omega) (by omega) n d hf120) (take1 (atS at0) (take1 (atS (atS at0)) take0))) rfl ?_
    rintro m2 _ ⟨row2, h2, rfl⟩
    refine app ?_
    -- (nothing to walk: op t47 := call F19{rivulet/rivuletref11.Equal}(t40, t46))
    refine vcd (S1.callF rfl (eqEv_spec (IsSl.rd evB_len h1) (IsSl.rd evB_len h2) (by omega)) (take1 (atS (atS (atS at0))) (take1 at0 take0))) rfl ?_
    refine v0 (S0.move rfl) rfl <| ?_  -- guard t48 (wants True) at t49 := move t8 [if #13=True]
    refine csTh (t := 48) rfl ((by simp)) ?_
    refine gT rfl <| v0 (S0.move rfl) rfl <| gT rfl <| v0 (S0.move rfl) rfl <| gT rfl <| v0 (S0.move rfl) rfl <| ?_  -- op t52 := call F22{rivulet/model.Holes}(t49, t50, t51) [if #13=True]
    refine gT rfl <| vc (S1.callF rfl (holes_spec hA (by omega) n d) (take1 (atS (atS (atS (atS at0)))) take0)) rfl ?_
    rintro h1 _ ⟨R1, rw1, hm1, hh1, rfl⟩
    refine app ?_
    refine gT rfl <| v0 (S0.move rfl) rfl <| gT rfl <| v0 (S0.move rfl) rfl <| gT rfl <| v0 (S0.move rfl) rfl <| ?_  -- op t56 := call F23{rivulet/rivuletref22.Holes}(t53, t54, t55) [if #13=True]
    refine gT rfl <| vc (S1.callF rfl (rholes_spec hB (by omega) n d) (take1 (atS (atS (atS (atS (atS at0))))) take0)) rfl ?_
    rintro h2 _ ⟨R2, rw2, hm2, hh2, rfl⟩
    refine app ?_
    have hR1 := marks_len hm1
    obtain rfl := hm1.uniq hm2
    -- (nothing to walk: op t57 := call F13{rivulet/rivuletref06.Equal}(t52, t56) [if #13=True])
    refine gT rfl <| vcd (S1.callF rfl (eqMk_spec (IsSl.rd mkB_len hh1) (IsSl.rd mkB_len hh2) (by omega)) (take1 (atS (atS at0)) (take1 at0 take0))) rfl ?_
    refine v0 (S0.pickT rfl rfl) rfl <| v0 (S0.move rfl) rfl <| ?_  -- guard t59 (wants True) at t60 := call F18{rivulet/rivuletlaw22.fixed}() [if #24=True]
    refine csTh (t := 59) rfl ((by simp)) ?_
    -- (nothing to walk: op t60 := call F18{rivulet/rivuletlaw22.fixed}() [if #24=True])
    refine gT rfl <| vcd (S1.callF rfl (fixed_spec) take0) rfl ?_
    refine v0 (S0.pickT rfl rfl) rfl <| v0 (S0.assign rfl) rfl <| vE <| WP.ret <| ?_  -- ret
    refine Leaves.drop (take1 (atS (atS (atS (atS (atS (atS (atS at0))))))) take0) ?_
    refine r1 rfl rfl ?_
    exact ⟨rfl, rfl⟩

/-! ModelStarts -/
theorem idxF_range {α : Type} (p : List α → α → Bool) : ∀ (l pre : List α), idxF p pre l = -1 ∨ ((pre.length : Int) ≤ idxF p pre l ∧ idxF p pre l < pre.length + l.length)
  | [], pre => .inl rfl
  | x :: l, pre => by
    simp only [idxF]
    split
    · right; simp; omega
    · have := idxF_range p l (pre ++ [x])
      simp at this ⊢; omega
theorem idxF_take {α : Type} (p : List α → α → Bool) : ∀ (l pre : List α) (n : Nat), idxF p pre (l.take n) = if idxF p pre l < pre.length + n then idxF p pre l else -1
  | [], pre, n => by simp [idxF]; omega
  | x :: l, pre, 0 => by
    have := idxF_range p (x :: l) pre
    rw [show (x :: l).take 0 = [] from rfl, show idxF p pre [] = -1 from rfl]
    generalize idxF p pre (x :: l) = w at this
    split <;> omega
  | x :: l, pre, n + 1 => by
    simp only [List.take_succ_cons, idxF]
    by_cases hp : p pre x
    · simp [hp]; omega
    · have := idxF_take p l (pre ++ [x]) n
      simp only [hp, Bool.false_eq_true, if_false]
      rw [this]
      simp only [List.length_append, List.length_singleton]
      rw [show ((pre.length + 1 : Nat) : Int) + (n : Int) = (pre.length : Int) + ((n + 1 : Nat) : Int) by omega]
theorem tmod_lt {z : Int} {m : Nat} (h : 0 ≤ z) (hm : 0 < m) : ∃ n : Nat, z.tmod m = n ∧ n < m := by
  have h1 := Int.tmod_nonneg (m : Int) h
  have h2 := Int.tmod_lt_of_pos z (show (0 : Int) < m by omega)
  exact ⟨(z.tmod m).toNat, by omega, by omega⟩
theorem modelStarts_walk (W : World) (tv : Value) (ht : ArgF W evK tv) (sv' : Value) (hs : ArgF W seK sv') (k : Int) : FN Tryd.prog 5 [tv, sv', .int .i64 k] [whole W] (fun v h => v = .bool true ∧ h = [whole W]) := by
  obtain ⟨t0, hrt, htw⟩ := argEv ht
  obtain ⟨s0, hrs, hsw⟩ := argSe hs
  have htl := cutEs_len t0
  have hsl := cutSs_len s0
  refine FN.intro 52 [(0, tv), (1, sv'), (2, .int .i64 k)] Tryd.func5 rfl (enters Tryd.func5 (by kernel_rfl) rfl) Tryd.ntmps5 rfl rfl ?_
  refine WP.seq <| WP.region <| v0 (S0.assign rfl) rfl <| vE <| WP.seq <| WP.region <| v0 (S0.move rfl) rfl <| ?_  -- op t14 := call F9{rivulet/rivuletlaw22.Events}(t13)
  refine vc (S1.callF rfl (events_spec hrt) (take1 at0 take0)) rfl ?_
  rintro t _ ⟨trow, ht, rfl⟩
  refine app ?_
  refine v0 (S0.assign rfl) rfl <| vE <| WP.seq <| WP.region <| v0 (S0.move rfl) rfl <| ?_  -- op t17 := call F10{rivulet/rivuletlaw22.both}(t16)
  refine vc (S1.callF rfl (both_spec hrs) (take1 (atS at0) take0)) rfl ?_
  rintro _ _ ⟨va, vb, ra, rb, rfl, ha, hb, rfl⟩
  refine app ?_
  generalize cutEs t0 = T at htl ht
  generalize cutSs s0 = S at hsl ha hb
  have hT := IsSl.rd evB_len ht
  have hA := IsSl.rd seB_len ha
  have hA' := hA
  obtain ⟨aa, ac, rfl, hac, -⟩ := hA'
  obtain ⟨z, hz⟩ : ∃ z, bitsI .and .i64 k 65535 = some z := ⟨_, rfl⟩
  have hzm := mask_i64 hz (by decide)
  obtain ⟨n, hn, hnl⟩ := tmod_lt (m := S.length + 1) hzm.1 (by omega)
  have hcut := (hA.cutG 0 n (Nat.zero_le _) (by omega)).2.2
  rw [List.drop_zero, Nat.sub_zero] at hcut
  have hidx := idxF_take (wrongAt T) S [] n
  have hrg := idxF_range (wrongAt T) S []
  refine v0 (S0.move rfl) rfl <| v0 (S0.extract rfl rfl) rfl <| v0 (S0.extract rfl rfl) rfl <| v0 (S0.assign rfl) rfl <| v0 (S0.assign rfl) rfl <| vE <| WP.seq <| WP.region <| v0 (S0.move rfl) rfl <| ?_  -- op t21 := and t20 65535:i64 :3
  refine v0 (S0.bits rfl rfl hz) rfl <| ?_
  refine v0 (S0.move rfl) rfl <| v0 (S0.lenSl rfl) rfl <| v0 (S0.ari rfl rfl rfl (wrap_i64 (by omega))) rfl <| ?_  -- op t25 := rem t21 t24 :3
  refine v0 (S0.rem rfl rfl (by omega)) rfl <| ?_
  rw [show (S.length : Int) + 1 = ((S.length + 1 : Nat) : Int) by omega, hn]
  refine v0 (S0.assign rfl) rfl <| vE <| WP.seq <| WP.drawP [(0, none), (1, none), (3, none), (4, none), (5, none), (6, none), (2, none), (7, none), (8, none), (9, none)] mixed (by kernel_rfl) (by kernel_rfl) (by kernel_rfl) take0 <| w0 rfl rfl rfl (S0.move rfl) rfl <| w0 rfl rfl rfl (S0.move rfl) rfl <| w0 rfl rfl rfl (S0.move rfl) rfl <| w0 rfl rfl rfl (S0.move rfl) rfl <| w0 rfl rfl rfl (S0.move rfl) rfl <| ?_  -- op t32 := slice 23 t30 none t31 none
  refine w0 rfl rfl rfl (S0.sliceG (i := 0) (j := n) rfl rfl rfl ⟨Nat.zero_le _, by omega⟩) rfl <| ?_
  -- (nothing to walk: op t28 := call F16{rivulet/model.Wrong}(t26, t27))
  refine wcd rfl rfl rfl rfl (S1.callF rfl (wrong_spec hT hA (by omega) (by omega)) (take1 (atS (atS (atS at0))) (take1 at0 take0))) rfl ?_
  -- (nothing to walk: op t33 := call F16{rivulet/model.Wrong}(t29, t32))
  refine wcd rfl rfl rfl rfl (S1.callF rfl (wrong_spec hT hcut (by omega) (by simp; omega)) (take1 at0 (take1 at0 take0))) rfl ?_
  have e1 : wrongI T (S.take n) = if wrongI T S < n then wrongI T S else -1 := by unfold wrongI; rw [hidx]; simp
  have e2 : wrongI T S = -1 ∨ 0 ≤ wrongI T S := by
    unfold wrongI
    rcases hrg with h | h
    · exact .inl h
    · right; simpa using h.1
  rw [e1]
  generalize wrongI T S = w at e2
  refine w0 rfl rfl rfl (S0.assign rfl) rfl <| w0 rfl rfl rfl (S0.assign rfl) rfl <| wE <| WP.seq <| WP.seq <| WP.region <| v0 (S0.move rfl) rfl <| v0 (S0.cmp rfl rfl rfl) rfl <| v0 (S0.move rfl) rfl <| ?_  -- guard t36 (wants False) at t37 := move t11 [if #2=False]
  first | refine csP (t := 36) rfl (fun h1 => ?_) (fun h1 => ?_) | refine csN (t := 36) rfl (fun h1 => ?_) (fun h1 => ?_) | refine cs (t := 36) rfl (fun h1 => ?_) (fun h1 => ?_)
  · skip
    refine gF rfl rfl <| gF rfl rfl <| gF rfl rfl <| v0 (S0.pickT rfl rfl) rfl <| vE <| WP.condT rfl <| WP.seq <| WP.region <| v0 (S0.move rfl) rfl <| v0 (S0.cmp rfl rfl rfl) rfl <| v0 (S0.move rfl) rfl <| ?_  -- guard t43 (wants True) at t44 := call F18{rivulet/rivuletlaw22.fixed}() [if #2=True]
    refine csTh (t := 43) rfl ((by simp; omega)) ?_
    -- (nothing to walk: op t44 := call F18{rivulet/rivuletlaw22.fixed}() [if #2=True])
    refine gT rfl <| vcd (S1.callF rfl (fixed_spec) take0) rfl ?_
    refine v0 (S0.pickT rfl rfl) rfl <| v0 (S0.assign rfl) rfl <| vE <| WP.ret <| ?_  -- ret
    refine Leaves.drop (take1 (atS (atS (atS at0))) take0) ?_
    refine r1 rfl rfl ?_
    exact ⟨rfl, rfl⟩
  · skip
    refine gT rfl <| v0 (S0.move rfl) rfl <| gT rfl <| v0 (S0.move rfl) rfl <| gT rfl <| v0 (S0.cmp rfl rfl rfl) rfl <| v0 (S0.pickF rfl rfl) rfl <| vE <| ?_  -- cond
    first | refine WP.condP rfl (fun h2 => ?_) (fun h2 => ?_) | refine WP.condN rfl (fun h2 => ?_) (fun h2 => ?_) | refine WP.cond rfl (fun h2 => ?_) (fun h2 => ?_)
    · skip
      refine WP.seq <| WP.region <| v0 (S0.move rfl) rfl <| v0 (S0.cmp rfl rfl rfl) rfl <| v0 (S0.move rfl) rfl <| ?_  -- guard t43 (wants True) at t44 := call F18{rivulet/rivuletlaw22.fixed}() [if #2=True]
      refine csTh (t := 43) rfl ((by simp; omega)) ?_
      -- (nothing to walk: op t44 := call F18{rivulet/rivuletlaw22.fixed}() [if #2=True])
      refine gT rfl <| vcd (S1.callF rfl (fixed_spec) take0) rfl ?_
      refine v0 (S0.pickT rfl rfl) rfl <| v0 (S0.assign rfl) rfl <| vE <| WP.ret <| ?_  -- ret
      refine Leaves.drop (take1 (atS (atS (atS at0))) take0) ?_
      refine r1 rfl rfl ?_
      exact ⟨rfl, rfl⟩
    · skip
      refine WP.skip <| WP.seq <| WP.region <| v0 (S0.move rfl) rfl <| v0 (S0.move rfl) rfl <| v0 (S0.cmp rfl rfl rfl) rfl <| v0 (S0.move rfl) rfl <| ?_  -- guard t49 (wants True) at t50 := call F18{rivulet/rivuletlaw22.fixed}() [if #3=True]
      refine csTh (t := 49) rfl ((by simp; omega)) ?_
      -- (nothing to walk: op t50 := call F18{rivulet/rivuletlaw22.fixed}() [if #3=True])
      refine gT rfl <| vcd (S1.callF rfl (fixed_spec) take0) rfl ?_
      refine v0 (S0.pickT rfl rfl) rfl <| v0 (S0.assign rfl) rfl <| vE <| WP.ret <| ?_  -- ret
      refine Leaves.drop (take1 (atS (atS (atS at0))) take0) ?_
      refine r1 rfl rfl ?_
      exact ⟨rfl, rfl⟩
end Go.Proofs.YtgcclpfpnfmjcaaDoor
