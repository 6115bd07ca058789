/-
  From a law function's contract to its row.
-/
import Derived.Test.YtnoicafjkgbokaaDoorInt
import Derived.ProofKit
import Derived.OpenShut
import Derived.Below
import Derived.Carry
import Derived.WideKeyArgs
import Derived.ChangeSame
import Derived.Deep.Slices
namespace Go.Proofs.YtnoicafjkgbokaaDoor
open Go Go.ChangeShapes Go.WideShapes Go.ChangeAt Go.RowKit

/-- all blocks of a world -/
def whole (W : World) : List Blk := W.heap.toList.zipIdx.map fun x => (x.2, x.1)
theorem whole_mem {W : World} {b : Nat} {o : Obj} : (b, o) ∈ whole W ↔ W.heap[b]? = some o := by
  unfold whole
  simp only [List.mem_map, Prod.mk.injEq, Prod.exists]
  constructor
  · rintro ⟨x, i, h, rfl, rfl⟩
    have := List.mem_zipIdx_iff_getElem?.1 h
    simpa using this
  · intro h
    exact ⟨o, b, List.mem_zipIdx_iff_getElem?.2 (by simpa using h), rfl, rfl⟩
theorem whole_nodup {W : World} : ((whole W).map Prod.fst).Nodup := by
  unfold whole
  rw [List.map_map]
  have : (Prod.fst ∘ fun x : Obj × Nat => (x.2, x.1)) = Prod.snd := rfl
  rw [this, List.zipIdx_map_snd]
  exact List.nodup_range'
theorem Sat.whole (W : World) : Sat W (([whole W] : Hp).flatten ++ []) W :=
  ⟨by simpa using whole_nodup, fun p hp => by simp at hp; exact whole_mem.1 hp, rfl, rfl, rfl, Nat.le_refl _, Nat.le_refl _⟩

theorem law_calls {P : Program} {g : Nat} {args : List Value} {W : World} (H : FN P g args [whole W] (fun v h => v = .bool true ∧ h = [whole W])) :
    Calls P g ⟨args⟩ W fun e w' => e = .returned (.bool true) ∧ Below W.heap.size W w' := by
  refine (H.run W [] W (Sat.whole W)).mono ?_
  rintro e w' ⟨v, h', rfl, ⟨rfl, rfl⟩, st⟩
  refine ⟨rfl, st.os, st.tape, st.out, st.size, fun k hk => ?_⟩
  obtain ⟨o, ho⟩ : ∃ o, W.heap[k]? = some o := ⟨W.heap[k], by simp [hk]⟩
  rw [ho]
  exact st.cell (k, o) (by simp; exact whole_mem.2 ho)

/-- The types of the parameters can be read. -/
def readAll (P : Program) (ts : List TypeId) : Bool := ts.all fun t => P.readableRec t && decide (t < P.types.size)
theorem Below.trodAll {H : Type} {enc : TypeId × Value → H} {P : Program} (hl : laidOutB P = true) {W W' : World} (hb : Below W.heap.size W W') {sp : Nat → Bool} :
    ∀ {ts : List TypeId} {vs : List Value} {ds : List (DataW H)} {ps : List MemPlace}, readAll P ts = true → DataW.TrodAll enc P W 0 (fun _ => true) true ts vs ds ps → (∀ x ∈ ps, x.block < W.heap.size) → (∀ x ∈ ps, sp x.block = true) → DataW.TrodAll enc P W' 0 sp true ts vs ds ps
  | [], vs, ds, ps, _, h, _, _ => by
    obtain ⟨rfl, rfl, rfl⟩ := trodAll_nil h
    exact trodAll_mk0
  | t :: ts, vs, ds, ps, hr, h, hlt, hsp => by
    obtain ⟨v, vs', d, ds', p, q, rfl, rfl, rfl, h1, h2⟩ := trodAll_cons h
    simp only [readAll, List.all_cons, Bool.and_eq_true, decide_eq_true_eq] at hr
    exact trodAll_cons_mk (WideElems.Trod_stays hl hr.1.1 hr.1.2 h1 (fun x hx => hb.same (hlt x (by simp [hx]))) (fun x hx => hsp x (by simp [hx]))) (Below.trodAll hl hb hr.2 h2 (fun x hx => hlt x (by simp [hx])) (fun x hx => hsp x (by simp [hx])))

theorem law_post {H : Type} {enc : TypeId × Value → H} {P : Program} {f : Func} {s : ChangeSpec} {apart fresh handsOn again : Bool} {W W' : World} {args : Array Value} {ds gs : List (DataW H)} {before : List MemPlace} {t : TypeId}
    (hl : laidOutB P = true) (hv : s.vars = []) (hr : f.resultTypes = #[t]) (ht : P.underlying t = some .bool) (hp : readAll P f.params.toList = true)
    (hs : ∀ ds : List (DataW H), ds.length = f.params.toList.length → (s.fn H ds).results = [.lit (.bool true)] ∧ (s.fn H ds).args = ds ∧ (s.fn H ds).vars = [])
    (hW : DataW.Whole enc P f.params.toList s.vars apart W args.toList ds gs before) (hb : Below W.heap.size W W') :
    s.post enc P f apart fresh handsOn again W args (.bool true) W' := by
  have hlt := hW.lt
  have hW0 := hW
  obtain ⟨p, q, hA, hV, rfl, hz, hn⟩ := hW0
  rw [hv] at hV
  obtain ⟨rfl, rfl⟩ := trodVars_none hV
  simp only [List.append_nil] at *
  have hlen : ds.length = f.params.toList.length := by
    have : ∀ {ts : List TypeId} {vs : List Value} {ds : List (DataW H)} {ps : List MemPlace}, DataW.TrodAll enc P W 0 (fun _ => true) true ts vs ds ps → ds.length = ts.length := by
      intro ts
      induction ts with
      | nil => intro vs ds ps h; obtain ⟨_, rfl, _⟩ := trodAll_nil h; rfl
      | cons t ts ih => intro vs ds ps h; obtain ⟨_, _, _, _, _, _, _, rfl, _, _, h2⟩ := trodAll_cons h; simp [ih h2]
    exact this hA
  obtain ⟨e1, e2, e3⟩ := hs ds hlen
  have hres : ∀ (b : Nat) (sp : Nat → Bool) (hd : Bool), DataW.TrodAll enc P W' b sp hd f.resultTypes.toList ((Value.bool true).resultList f.resultTypes.size) (s.fn H (ds ++ [])).results [] := fun b sp hd => by
    rw [List.append_nil, e1, hr]
    exact trodAll_mk1 (shut_bool ht true)
  have hargs : ∀ sp : Nat → Bool, (∀ x ∈ p, sp x.block = true) → DataW.TrodAll enc P W' 0 sp true f.params.toList args.toList (s.fn H (ds ++ [])).args p := fun sp hsp => by
    rw [List.append_nil, e2]
    exact Below.trodAll hl hb hp hA hlt hsp
  have hvars : ∀ sp : Nat → Bool, DataW.TrodVars enc P W' sp s.vars (s.fn H (ds ++ [])).vars [] := fun sp => by
    rw [List.append_nil, e3, hv]; rfl
  have hold : ∀ x ∈ p, (fun b => decide (b < W.heap.size)) x.block = true := fun x hx => by simpa using hlt x hx
  refine ⟨ds, [], p, [], p, [], by simpa using hW, hres _ _ _, hargs _ hold, hvars _, hb.frame _, fun _ => ?_⟩
  refine ⟨ok_one hr rfl (okWide_bool_mk ht true), _, _, p, ⟨p, [], by simpa using trodAll_append (hargs _ (fun _ _ => rfl)) (hres 0 (fun _ => true) true), hvars _, by simp, ?_, ?_⟩, ?_⟩
  · intro b off hp
    rw [hb.frozen (p := ⟨b, off, none⟩) (hlt _ hp)]
    exact hz b off hp
  · intro ha
    exact hn ha
  · intro x hx _
    simpa using hx

/-! arguments opened -/
/-- a slice of structs of integers, all of kind i64 -/
def intStruct (P : Program) (e : TypeId) (k : Nat) : Prop := ∃ fs, P.underlying e = some (.struct fs) ∧ P.cellsOf e = k ∧ ∀ j, j < k → ∃ f, fs[j]? = some f ∧ f.offset = j ∧ P.cellsOf f.type = 1 ∧ P.underlying f.type = some (.int .i64)
/-- what the walk knows of such an argument -/
def ArgI (W : World) (k : Nat) (v : Value) : Prop := ∃ a len cap, v = .slice a len cap ∧ len ≤ cap ∧ (len = 0 ∨ ∃ b o L U fz, a = some ⟨b, o, none⟩ ∧ W.heap[b]? = some (.cells ⟨L⟩ U fz) ∧ ∀ i j, i < len → j < k → ∃ n, L[o + i * k + j]? = some (.int .i64 n) ∧ (Lit.int .i64 n).wf = true)
theorem open_argI {H : Type} {enc : TypeId × Value → H} {P : Program} {W : World} {sp : Nat → Bool} {r : Reach} {b0 : Nat} {t e : TypeId} {k : Nat} {v : Value} {d : DataW H} {ps : List MemPlace} (ht : P.underlying t = some (.slice e)) (he : intStruct P e (k + 1)) (hval : Value.okWide P W r b0 t v)
    (h : DataW.Trod enc P W 0 sp true t v d ps) : ArgI W (k + 1) v := by
  obtain ⟨a, len, cap, rfl⟩ := okWide_slice ht hval
  obtain ⟨fuel, h⟩ := h
  obtain ⟨fs, hfs, hce, hf⟩ := he
  rcases Deep.open_slice ht h with ⟨h0, _⟩ | ⟨a', len', cap', m, n, D, Pl, hc, _, hlc, _, hm, _, hx⟩
  · simp [Value.cells] at h0
    obtain ⟨rfl, rfl, rfl⟩ := h0
    exact ⟨none, 0, 0, rfl, Nat.le_refl _, .inl rfl⟩
  · simp [Value.cells] at hc
    obtain ⟨rfl, rfl, rfl⟩ := hc
    refine ⟨_, _, _, rfl, hlc, ?_⟩
    rcases Nat.eq_zero_or_pos len with h0 | h0
    · exact .inl h0
    right
    have hlm : len ≤ m := by rw [hm]; split <;> omega
    have key : ∀ i j, i < len → j < k + 1 → ∃ n, W.cell? (a'.add (i * (k + 1) + j)) = some (.int .i64 n) ∧ (Lit.int .i64 n).wf = true := fun i j hi hj => by
      obtain ⟨cs', h1, h2⟩ := hx i (by omega)
      rw [hce] at h1
      obtain ⟨_, hlen, hcell⟩ := World.cells?_some h1
      obtain ⟨xs, n', hn', _, _, hxl, hfld⟩ := DataW.trod_struct hfs h2
      obtain ⟨f, hf1, hf2, hf3, hf4⟩ := hf j hj
      have h3 := hfld j f hf1
      rw [hf2, hf3] at h3
      have hj2 : j < xs.length := by rw [hxl]; exact (Array.getElem?_eq_some_iff.1 hf1).1
      rw [List.getElem?_eq_getElem hj2] at h3
      obtain ⟨z, hz, _, hwf⟩ := DataW.trod_int hf4 h3
      have h4 := hcell j (by omega)
      have h5 : cs'[j]? = some (.int .i64 z) := by
        have := congrArg (fun l => l[0]?) hz
        simpa using this
      rw [h5] at h4
      refine ⟨z, ?_, hwf⟩
      rw [← h4]
      congr 1
      unfold Addr.add
      by_cases e1 : i * (k + 1) = 0 <;> by_cases e2 : j = 0 <;> simp [e1, e2] <;> omega
    obtain ⟨n0, hn0, _⟩ := key 0 0 h0 (by omega)
    have hsp : a'.spot = none ∧ ∃ L U fz, W.heap[a'.block]? = some (.cells L U fz) := by
      simp only [Nat.zero_mul, Nat.add_zero, Addr.add, if_true] at hn0
      unfold World.cell? at hn0
      split at hn0
      · rename_i c U fz hh
        split at hn0
        · cases hn0
        · rename_i hs
          exact ⟨by simpa using hs, _, _, _, hh⟩
      · cases hn0
    obtain ⟨hs, ⟨L⟩, U, fz, hh⟩ := hsp
    obtain ⟨b, o, spo⟩ := a'
    simp only at hs hh
    subst hs
    refine ⟨b, o, L, U, fz, rfl, hh, fun i j hi hj => ?_⟩
    obtain ⟨n, hn, hwf⟩ := key i j hi hj
    have ea : (⟨b, o, none⟩ : Addr).add (i * (k + 1) + j) = ⟨b, o + (i * (k + 1) + j), none⟩ := by unfold Addr.add; split <;> simp_all
    rw [ea] at hn
    refine ⟨n, ?_, hwf⟩
    unfold World.cell? at hn
    simp only [hh] at hn
    simpa [Nat.add_assoc] using hn

/-- a slice of integers of kind q -/
def ArgQ (W : World) (q : IntKind) (v : Value) : Prop := ∃ a len cap, v = .slice a len cap ∧ len ≤ cap ∧ (len = 0 ∨ ∃ b o L U fz, a = some ⟨b, o, none⟩ ∧ W.heap[b]? = some (.cells ⟨L⟩ U fz) ∧ ∀ i, i < len → ∃ n, L[o + i]? = some (.int q n) ∧ (Lit.int q n).wf = true)
theorem open_argQ {H : Type} {enc : TypeId × Value → H} {P : Program} {W : World} {sp : Nat → Bool} {r : Reach} {b0 : Nat} {t e : TypeId} {q : IntKind} {v : Value} {d : DataW H} {ps : List MemPlace} (ht : P.underlying t = some (.slice e)) (he : P.underlying e = some (.int q)) (hce : P.cellsOf e = 1) (hval : Value.okWide P W r b0 t v)
    (h : DataW.Trod enc P W 0 sp true t v d ps) : ArgQ W q v := by
  obtain ⟨a, len, cap, rfl⟩ := okWide_slice ht hval
  obtain ⟨fuel, h⟩ := h
  rcases Deep.open_slice ht h with ⟨h0, _⟩ | ⟨a', len', cap', m, n, D, Pl, hc, _, hlc, _, hm, _, hx⟩
  · simp [Value.cells] at h0
    obtain ⟨rfl, rfl, rfl⟩ := h0
    exact ⟨none, 0, 0, rfl, Nat.le_refl _, .inl rfl⟩
  · simp [Value.cells] at hc
    obtain ⟨rfl, rfl, rfl⟩ := hc
    refine ⟨_, _, _, rfl, hlc, ?_⟩
    rcases Nat.eq_zero_or_pos len with h0 | h0
    · exact .inl h0
    right
    have hlm : len ≤ m := by rw [hm]; split <;> omega
    have key : ∀ i, i < len → ∃ n, W.cell? (a'.add i) = some (.int q n) ∧ (Lit.int q n).wf = true := fun i hi => by
      obtain ⟨cs', h1, h2⟩ := hx i (by omega)
      rw [hce] at h1
      obtain ⟨_, hlen, hcell⟩ := World.cells?_some h1
      obtain ⟨z, hz, _, hwf⟩ := DataW.trod_int he h2
      have h4 := hcell 0 (by omega)
      rw [hz] at h4
      refine ⟨z, ?_, hwf⟩
      simpa [Addr.add] using h4
    obtain ⟨n0, hn0, _⟩ := key 0 h0
    have hsp : a'.spot = none ∧ ∃ L U fz, W.heap[a'.block]? = some (.cells L U fz) := by
      simp only [Addr.add, if_true] at hn0
      unfold World.cell? at hn0
      split at hn0
      · rename_i c U fz hh
        split at hn0
        · cases hn0
        · rename_i hs
          exact ⟨by simpa using hs, _, _, _, hh⟩
      · cases hn0
    obtain ⟨hs, ⟨L⟩, U, fz, hh⟩ := hsp
    obtain ⟨b, o, spo⟩ := a'
    simp only at hs hh
    subst hs
    refine ⟨b, o, L, U, fz, rfl, hh, fun i hi => ?_⟩
    obtain ⟨n, hn, hwf⟩ := key i hi
    have ea : (⟨b, o, none⟩ : Addr).add i = ⟨b, o + i, none⟩ := by unfold Addr.add; split <;> simp_all
    rw [ea] at hn
    refine ⟨n, ?_, hwf⟩
    unfold World.cell? at hn
    simp only [hh] at hn
    simpa using hn
theorem wf_i64 {n : Int} (h : (Lit.int .i64 n).wf = true) : -9223372036854775808 ≤ n ∧ n ≤ 9223372036854775807 := by simpa [Lit.wf, IntKind.min, IntKind.max, IntKind.signed, IntKind.bits] using h
theorem wf_u8 {n : Int} (h : (Lit.int .u8 n).wf = true) : 0 ≤ n ∧ n ≤ 255 := by simpa [Lit.wf, IntKind.min, IntKind.max, IntKind.signed, IntKind.bits] using h
end Go.Proofs.YtnoicafjkgbokaaDoor
