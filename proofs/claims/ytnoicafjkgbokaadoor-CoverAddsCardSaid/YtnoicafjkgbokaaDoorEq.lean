/-
  Structs compared; structs as keys of maps.
-/
import Derived.Test.YtnoicafjkgbokaaDoorStr
import Derived.Laws.StructEq
import Derived.WideKeyRuns
namespace Go.Proofs.YtnoicafjkgbokaaDoor
open Go

/-- The fields of a struct that can be compared: types and offsets. -/
class Flds (P : Program) (T : TypeId) (pl : outParam (List (TypeId × Nat))) : Prop where
  ex : P.underlying T = some (.struct (P.fieldsOf T)) ∧ ((P.fieldsOf T).toList.map fun f => (f.name == "_", f.type, f.offset)) = pl.map (fun p => (false, p.1, p.2)) ∧ P.stoodInHeld T = false ∧ P.eqGuardType P.depth T = false

class GetL (l : List Value) (i : Nat) (v : outParam Value) : Prop where
  eq : l[i]? = some v
instance {a l} : GetL (a :: l) 0 a := ⟨rfl⟩
instance {a l i v} [k : GetL l i v] : GetL (a :: l) (i + 1) v := ⟨by simpa using k.eq⟩

def FldIs (fs : List Field) (pl : List (TypeId × Nat)) : Prop := (fs.map fun f => (f.name == "_", f.type, f.offset)) = pl.map (fun p => (false, p.1, p.2))
theorem FldIs.cons {fs : List Field} {T : TypeId} {off : Nat} {pl : List (TypeId × Nat)} (h : FldIs fs ((T, off) :: pl)) : ∃ f fs', fs = f :: fs' ∧ f.name ≠ "_" ∧ f.type = T ∧ f.offset = off ∧ FldIs fs' pl := by
  cases fs with
  | nil => simp [FldIs] at h
  | cons f fs =>
    simp only [FldIs, List.map_cons, List.cons.injEq, Prod.mk.injEq] at h
    obtain ⟨⟨h1, h2, h3⟩, h4⟩ := h
    exact ⟨f, fs, rfl, by simpa using h1, h2, h3, h4⟩
theorem FldIs.nil {fs : List Field} (h : FldIs fs []) : fs = [] := by cases fs <;> simp_all [FldIs]

class EqPl (P : Program) (pl : List (TypeId × Nat)) (xs ys : List Value) (n : outParam Nat) (b : outParam Bool) : Prop where
  run : ∀ d, n ≤ d → ∀ (fs : List Field), FldIs fs pl → ∀ w, (Op.eqFields d ⟨xs⟩ ⟨ys⟩ fs).run P w = .ok b w
instance {P xs ys} : EqPl P [] xs ys 1 true := ⟨fun d _ fs h w => by rw [h.nil]; simp [Op.eqFields]⟩
theorem run_part_sca {P : Program} {T : TypeId} {D : TypeDesc} (hu : P.underlying T = some D) (hD : isAggD D = false) {xs : List Value} {off : Nat} {v : Value} (hx : xs[off]? = some v) (w : World) : (part T ⟨xs⟩ off).run P w = .ok v w := by
  have h1 : (isAgg T).run P w = .ok false w := by
    cases D <;> first | (simp [isAggD] at hD; done) | simp [isAgg, run_underlying hu]
  simp [part, h1, hx]
instance {P T off pl xs ys k a b n r} [u : Und P T (.int k)] [hx : GetL xs off (.int k a)] [hy : GetL ys off (.int k b)] [q : EqPl P pl xs ys n r] : EqPl P ((T, off) :: pl) xs ys (n + 1) (decide (a = b) && r) := ⟨fun d hd fs h w => by
  obtain ⟨f, fs', rfl, h1, h2, h3, h4⟩ := h.cons
  subst h2 h3
  obtain ⟨d, rfl⟩ : ∃ e, d = e + 1 := ⟨d - 1, by omega⟩
  have e1 := run_part_sca u.eq rfl hx.eq
  have e2 := run_part_sca u.eq rfl hy.eq
  have e4 := q.run (d + 1) (by omega) fs' h4
  have e3 : ∀ w, (Op.equalIn (d + 1) f.type (.int k a) (.int k b)).run P w = .ok (a == b) w := fun w => by
    simp only [Op.equalIn, Sem.run_bind, run_underlying u.eq, Result.andThen_ok]; simp
  simp only [Op.eqFields, h1, ne_eq, not_false_eq_true, if_true, Sem.run_bind, e1, e2, e3, Result.andThen_ok]
  by_cases hab : a = b
  · simp [hab, e4]
  · simp [hab]⟩
instance {P T off pl xs ys a b n r} [u : Und P T .string] [hx : GetL xs off (sv a)] [hy : GetL ys off (sv b)] [q : EqPl P pl xs ys n r] : EqPl P ((T, off) :: pl) xs ys (n + 1) (decide (a = b) && r) := ⟨fun d hd fs h w => by
  obtain ⟨f, fs', rfl, h1, h2, h3, h4⟩ := h.cons
  subst h2 h3
  obtain ⟨d, rfl⟩ : ∃ e, d = e + 1 := ⟨d - 1, by omega⟩
  have e1 := run_part_sca u.eq rfl hx.eq
  have e2 := run_part_sca u.eq rfl hy.eq
  have e4 := q.run (d + 1) (by omega) fs' h4
  have e3 : ∀ w, (Op.equalIn (d + 1) f.type (sv a) (sv b)).run P w = .ok (decide (a = b)) w := fun w => by
    simp only [Op.equalIn, Sem.run_bind, run_underlying u.eq, Result.andThen_ok, Sem.run_pure, ba_beq]
  simp only [Op.eqFields, h1, ne_eq, not_false_eq_true, if_true, Sem.run_bind, e1, e2, e3, Result.andThen_ok]
  by_cases hab : a = b
  · simp [hab, e4]
  · simp [hab]⟩
instance {P T off pl xs ys a b n r} [u : Und P T .bool] [hx : GetL xs off (.bool a)] [hy : GetL ys off (.bool b)] [q : EqPl P pl xs ys n r] : EqPl P ((T, off) :: pl) xs ys (n + 1) (decide (a = b) && r) := ⟨fun d hd fs h w => by
  obtain ⟨f, fs', rfl, h1, h2, h3, h4⟩ := h.cons
  subst h2 h3
  obtain ⟨d, rfl⟩ : ∃ e, d = e + 1 := ⟨d - 1, by omega⟩
  have e1 := run_part_sca u.eq rfl hx.eq
  have e2 := run_part_sca u.eq rfl hy.eq
  have e4 := q.run (d + 1) (by omega) fs' h4
  have e3 : ∀ w, (Op.equalIn (d + 1) f.type (.bool a) (.bool b)).run P w = .ok (a == b) w := fun w => by
    simp only [Op.equalIn, Sem.run_bind, run_underlying u.eq, Result.andThen_ok, Sem.run_pure]
  simp only [Op.eqFields, h1, ne_eq, not_false_eq_true, if_true, Sem.run_bind, e1, e2, e3, Result.andThen_ok]
  by_cases hab : a = b
  · simp [hab, e4]
  · simp [hab]⟩
theorem run_eqAg {P : Program} {T : TypeId} {pl : List (TypeId × Nat)} {xs ys : List Value} {n : Nat} {r : Bool} [u : Flds P T pl] [q : EqPl P pl xs ys n r] (d : Nat) (hd : n + 1 ≤ d) (w : World) : (Op.equalIn d T (.agg ⟨xs⟩) (.agg ⟨ys⟩)).run P w = .ok r w := by
  obtain ⟨d, rfl⟩ : ∃ e, d = e + 1 := ⟨d - 1, by omega⟩
  rw [run_equalIn_struct w d T ⟨xs⟩ ⟨ys⟩ u.ex.1 u.ex.2.2.1]
  exact q.run d (by omega) _ u.ex.2.1 w
theorem run_part_ag {P : Program} {T : TypeId} {pl : List (TypeId × Nat)} {sz by_ : Nat} {zv : Value} [u : Flds P T pl] [i : Inf P T sz by_ zv] {xs xs' : List Value} {off : Nat} [s : SubL off sz xs xs'] (w : World) : (part T ⟨xs⟩ off).run P w = .ok (.agg ⟨xs'⟩) w := by
  have h1 : (isAgg T).run P w = .ok true w := run_isAggD u.ex.1 w
  have e : (⟨xs⟩ : Array Value).extract off (off + sz) = ⟨xs'⟩ := by
    apply Array.toList_inj.1
    rw [Array.toList_extract, List.extract_eq_take_drop]
    show (xs.drop off).take (off + sz - off) = xs'
    rw [Nat.add_sub_cancel_left, s.eq.1]
  simp [part, h1, run_sizeOf (k := i), s.eq.1]
instance {P T off pl pl2 sz by_ zv xs ys xs' ys' n n2 r r2} [u : Flds P T pl2] [i : Inf P T sz by_ zv] [hx : SubL off sz xs xs'] [hy : SubL off sz ys ys'] [q2 : EqPl P pl2 xs' ys' n2 r2] [q : EqPl P pl xs ys n r] : EqPl P ((T, off) :: pl) xs ys (n + n2 + 1) (r2 && r) := ⟨fun d hd fs h w => by
  obtain ⟨f, fs', rfl, h1, h2, h3, h4⟩ := h.cons
  subst h2 h3
  have e1 : ∀ w, (part f.type ⟨xs⟩ f.offset).run P w = .ok (.agg ⟨xs'⟩) w := fun w => run_part_ag (u := u) (i := i) (s := hx) w
  have e2 : ∀ w, (part f.type ⟨ys⟩ f.offset).run P w = .ok (.agg ⟨ys'⟩) w := fun w => run_part_ag (u := u) (i := i) (s := hy) w
  have e4 := q.run d (by omega) fs' h4
  have e3 : ∀ w, (Op.equalIn d f.type (.agg ⟨xs'⟩) (.agg ⟨ys'⟩)).run P w = .ok r2 w := fun w => run_eqAg (u := u) (q := q2) d (by omega) w
  simp only [Op.eqFields, h1, ne_eq, not_false_eq_true, if_true, Sem.run_bind, e1, e2, e3, Result.andThen_ok]
  cases r2 <;> simp [e4]⟩

/-- What may be looked at as a key. -/
class ChkPl (P : Program) (pl : List (TypeId × Nat)) (xs : List Value) (n : outParam Nat) : Prop where
  run : ∀ e d, n ≤ d → ∀ (fs : List Field), FldIs fs pl → ∀ f ∈ fs, f.name ≠ "_" ∧ ∃ v, (∀ w, (part f.type ⟨xs⟩ f.offset).run P w = .ok v w) ∧ ∀ w, (Instr.checkKey e d f.type v).run P w = .ok () w
instance {P xs} : ChkPl P [] xs 0 := ⟨fun e d _ fs h f hf => by rw [h.nil] at hf; cases hf⟩
instance {P T off pl xs k a n} [u : Und P T (.int k)] [hx : GetL xs off (.int k a)] [q : ChkPl P pl xs n] : ChkPl P ((T, off) :: pl) xs (n + 1) := ⟨fun e d hd fs h f hf => by
  obtain ⟨f0, fs', rfl, h1, h2, h3, h4⟩ := h.cons
  subst h2 h3
  rcases List.mem_cons.1 hf with rfl | hf
  · obtain ⟨d, rfl⟩ : ∃ e, d = e + 1 := ⟨d - 1, by omega⟩
    exact ⟨h1, _, run_part_sca u.eq rfl hx.eq, fun w => run_checkKey_int u.eq e d _ w⟩
  · exact q.run e d (by omega) fs' h4 f hf⟩
theorem run_chkAg {P : Program} {T : TypeId} {pl : List (TypeId × Nat)} {xs : List Value} {n : Nat} [u : Flds P T pl] [q : ChkPl P pl xs n] (e : Bool) (d : Nat) (hd : n + 1 ≤ d) (w : World) : (Instr.checkKey e d T (.agg ⟨xs⟩)).run P w = .ok () w := by
  obtain ⟨d, rfl⟩ : ∃ e, d = e + 1 := ⟨d - 1, by omega⟩
  rw [Instr.checkKey]
  simp only [Sem.run_bind, run_underlying u.ex.1, Result.andThen_ok]
  rw [← Array.forIn_toList]
  have each := q.run e d (by omega) _ u.ex.2.1
  generalize (P.fieldsOf T).toList = L at each
  induction L with
  | nil => simp
  | cons f L ih =>
    obtain ⟨hn, v, p1, p2⟩ := each f (by simp)
    simp only [List.forIn_cons, Sem.run_bind, hn, ne_eq, not_false_eq_true, if_true, Result.andThen_ok, p1, p2, Sem.run_pure]
    exact ih (fun y hy => each y (by simp [hy]))
instance {P T off pl pl2 sz by_ zv xs xs' n n2} [u : Flds P T pl2] [i : Inf P T sz by_ zv] [hx : SubL off sz xs xs'] [q2 : ChkPl P pl2 xs' n2] [q : ChkPl P pl xs n] : ChkPl P ((T, off) :: pl) xs (n + n2 + 1) := ⟨fun e d hd fs h f hf => by
  obtain ⟨f0, fs', rfl, h1, h2, h3, h4⟩ := h.cons
  subst h2 h3
  rcases List.mem_cons.1 hf with rfl | hf
  · exact ⟨h1, _, fun w => run_part_ag (u := u) (i := i) (s := hx) w, fun w => run_chkAg (u := u) (q := q2) e d (by omega) w⟩
  · exact q.run e d (by omega) fs' h4 f hf⟩

/-- structs as keys -/
theorem MKey.ofAg {P : Program} {K : TypeId} {κ : Type} [DecidableEq κ] {en : κ → List Value} {pl : List (TypeId × Nat)} {n m : Nat} [u : Flds P K pl] (hn : n + 1 ≤ 10000) (hm : m + 1 ≤ 10000) (he : ∀ a b, EqPl P pl (en a) (en b) n (decide (a = b))) (hc : ∀ a, ChkPl P pl (en a) m) (hs : ∀ a, Instr.sameBits 10000 (.agg ⟨en a⟩) (.agg ⟨en a⟩) = true) : MKey P K (fun k => .agg ⟨en k⟩) where
  chk := fun e k w => run_chkAg (u := u) (q := hc k) e 10000 hm w
  same := hs
  fnd := fun k L w => by
    rw [run_findKey_eq w (by rw [u.ex.1])]
    have key : ∀ (L : ML κ) (i : Nat), (Instr.findAsking K (.agg ⟨en k⟩) (L.map (entM fun k => .agg ⟨en k⟩)) i).run P w = .ok (fndM L k i) w := by
      intro L
      induction L with
      | nil => intro i; simp [Instr.findAsking, fndM]
      | cons x L ih =>
        intro i
        have e1 : (Op.equal K (.agg ⟨en k⟩) (.agg ⟨en x.1⟩)).run P w = .ok (decide (k = x.1)) w := run_eqAg (u := u) (q := he k x.1) 10000 hn w
        simp only [List.map_cons, entM, Instr.findAsking, Sem.run_bind, e1, Result.andThen_ok, fndM]
        by_cases hk : k = x.1
        · simp [hk]
        · simp only [hk, decide_false, Bool.false_eq_true, if_false]; exact ih (i + 1)
    exact key L 0

section
variable {P : Program} {r : Option Nat} {Q : Exit → Fr → Hp → Prop} {f : Fr} {h h' : Hp} {d : Option Tmp} {ty : TypeId} {p : String} {af : Array Edge} {gd : Option (Nat × Bool)} {S : Hp} {SL : List Blk}
theorem S0.eqAg {T U : TypeId} {x y : Operand} {pl : List (TypeId × Nat)} {xs ys : List Value} {n : Nat} {q c : Bool} {op : BinOp} [u : Flds P T pl] (hx : ev f x = some (.agg ⟨xs⟩)) (hy : ev f y = some (.agg ⟨ys⟩)) [k : EqPl P pl xs ys n q] (hn : Nat.ble (n + 1) 10000 = true) (hb : (match op with | .eql => some q | .neq => some (!q) | _ => none) = some c) :
    S0 P f SL ⟨d, .binOp op T x y U, ty, p, af, gd⟩ (.bool c) :=
  S0.pure (by intro c; simp) (by intro c; simp) fun ρ w k' => by
    have e1 : (Op.equal T (.agg ⟨xs⟩) (.agg ⟨ys⟩)).run P w = .ok q w := run_eqAg (u := u) (q := k) 10000 (Nat.le_of_ble_eq_true hn) w
    cases op <;> simp only [Option.some.injEq, reduceCtorEq] at hb <;> subst hb <;> simp [execOp, k' _ _ hx, k' _ _ hy, eqGuard, binOp, e1, u.ex.2.2.2]
theorem run_equalInM {T K V} [u : Und P T (.map K V)] (n : Nat) (a b : Option Nat) (hn : (a.isNone || b.isNone) = true) (w : World) : (Op.equalIn (n + 1) T (.map a) (.map b)).run P w = .ok (a.isNone && b.isNone) w := by
  cases a <;> cases b <;> simp at hn <;> simp only [Op.equalIn, Sem.run_bind, run_underlying u.eq, Result.andThen_ok, Sem.run_pure] <;> rfl
theorem run_equalM {T K V} [u : Und P T (.map K V)] (a b : Option Nat) (hn : (a.isNone || b.isNone) = true) (w : World) : (Op.equal T (.map a) (.map b)).run P w = .ok (a.isNone && b.isNone) w := run_equalInM 9999 a b hn w
theorem S0.nilM {T U K V : TypeId} {x y : Operand} {a b : Option Nat} {op : BinOp} [u : Und P T (.map K V)] (hx : ev f x = some (.map a)) (hy : ev f y = some (.map b)) (hn : (a.isNone || b.isNone) = true) {c : Bool}
    (hb : (match op with | .eql => some (a.isNone && b.isNone) | .neq => some (!(a.isNone && b.isNone)) | _ => none) = some c) : S0 P f SL ⟨d, .binOp op T x y U, ty, p, af, gd⟩ (.bool c) :=
  S0.pure (by intro c; simp) (by intro c; simp) fun ρ w k' => by
    have e1 := run_equalM (P := P) (T := T) (u := u) a b hn w
    cases op <;> simp only [Option.some.injEq, reduceCtorEq] at hb <;> subst hb <;> simp [execOp, k' _ _ hx, k' _ _ hy, eqGuard, binOp, e1]
end
end Go.Proofs.YtnoicafjkgbokaaDoor
