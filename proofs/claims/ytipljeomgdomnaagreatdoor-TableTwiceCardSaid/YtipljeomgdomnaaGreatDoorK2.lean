import Derived.Test.YtipljeomgdomnaaGreatDoorK1
import Derived.Laws.StructEq
import Derived.WideKeyRuns
import Derived.Test.YtipljeomgdomnaaGreatDoorProg
import Derived.ProofKit
import Derived.OpenShut
import Derived.Below
import Derived.Carry
import Derived.WideKeyArgs
import Derived.ChangeSame
import Derived.Deep.Slices
import Derived.ChangeMaps5
import Derived.Scope
import Derived.Laws.Externs
import Derived.Laws.Build
set_option linter.unusedSimpArgs false
set_option linter.unusedVariables false
set_option linter.unnecessarySimpa false
/- Str -/
/-
  Strings: letters, cuts, comparisons, ranging.
-/
namespace Go.Proofs.YtipljeomgdomnaaGreatDoor
open Go

/-- one text is ahead of another one -/
def ltS : Str → Str → Bool
  | _, [] => false
  | [], _ :: _ => true
  | a :: x, b :: y => decide (a < b) || (decide (a = b) && ltS x y)
theorem bytesLess_ltS : ∀ (x y : Str), Op.bytesLess x y = ltS x y
  | x, [] => by cases x <;> rfl
  | [], b :: y => rfl
  | a :: x, b :: y => by
    simp only [Op.bytesLess, ltS, bytesLess_ltS x y]
    by_cases h : a = b <;> simp [h]
theorem ba_toList (l : Str) : (⟨⟨l⟩⟩ : ByteArray).toList = l := by
  have key : ∀ (n i : Nat) (r : List UInt8), l.length - i = n → ByteArray.toList.loop ⟨⟨l⟩⟩ i r = r.reverse ++ l.drop i := by
    intro n
    induction n with
    | zero =>
      intro i r h
      unfold ByteArray.toList.loop
      have : ¬ i < (⟨⟨l⟩⟩ : ByteArray).size := by show ¬ i < l.length; omega
      rw [if_neg this, List.drop_eq_nil_of_le (by omega)]; simp
    | succ n ih =>
      intro i r h
      unfold ByteArray.toList.loop
      have hlt : i < l.length := by omega
      have : i < (⟨⟨l⟩⟩ : ByteArray).size := hlt
      rw [if_pos this, ih (i + 1) _ (by omega)]
      have e : (⟨⟨l⟩⟩ : ByteArray).get! i = l[i] := by
        show (Array.mk l)[i]! = l[i]
        simp [hlt]
      rw [e, List.reverse_cons, List.append_assoc, List.singleton_append, ← List.drop_eq_getElem_cons hlt]
  have := key l.length 0 [] rfl
  simpa [ByteArray.toList] using this
theorem sv_size (l : Str) : (⟨⟨l⟩⟩ : ByteArray).size = l.length := rfl
theorem sv_get? (l : Str) (i : Nat) : (⟨⟨l⟩⟩ : ByteArray)[i]? = l[i]? := by
  by_cases h : i < l.length
  · have h2 : i < (⟨⟨l⟩⟩ : ByteArray).size := h
    rw [getElem?_pos (⟨⟨l⟩⟩ : ByteArray) i h2, List.getElem?_eq_getElem h]; rfl
  · have h2 : ¬ i < (⟨⟨l⟩⟩ : ByteArray).size := h
    rw [getElem?_neg (⟨⟨l⟩⟩ : ByteArray) i h2, List.getElem?_eq_none (by omega)]
theorem sv_extract (l : Str) (i j : Nat) : (⟨⟨l⟩⟩ : ByteArray).extract i j = ⟨⟨(l.drop i).take (j - i)⟩⟩ := by
  apply ByteArray.ext
  rw [ByteArray.data_extract]
  apply Array.toList_inj.1
  simp [List.extract_eq_take_drop]

def cmpSt (op : BinOp) (x y : Str) : Option Bool :=
  match op with
  | .eql => some (decide (x = y)) | .neq => some (!decide (x = y)) | .lss => some (ltS x y) | .geq => some (!ltS x y) | .gtr => some (!ltS x y && !decide (x = y)) | .leq => some (ltS x y || decide (x = y))
  | _ => none

section
variable {P : Program} {r : Option Nat} {Q : Exit → Fr → Hp → Prop} {f : Fr} {h h' : Hp} {d : Option Tmp} {ty : TypeId} {p : String} {af : Array Edge} {gd : Option (Nat × Bool)} {S : Hp} {SL : List Blk}
variable {T E : TypeId} {x y z : Operand}

theorem S0.cmpS {a b : Str} {op T U} (hx : ev f x = some (sv a)) (hy : ev f y = some (sv b)) {c : Bool} (hb : cmpSt op a b = some c) : S0 P f SL ⟨d, .binOp op T x y U, ty, p, af, gd⟩ (.bool c) :=
  S0.pure (by intro c; simp) (by intro c; simp) fun ρ w k' => by
    have e1 : ((⟨⟨a⟩⟩ : ByteArray).toList == (⟨⟨b⟩⟩ : ByteArray).toList) = decide (a = b) := by
      rw [ba_toList, ba_toList, Bool.eq_iff_iff]; simp
    have e2 : Op.bytesLess (⟨⟨a⟩⟩ : ByteArray).toList (⟨⟨b⟩⟩ : ByteArray).toList = ltS a b := by rw [ba_toList, ba_toList, bytesLess_ltS]
    cases op <;> simp only [cmpSt, Option.some.injEq, reduceCtorEq] at hb <;> subst hb <;> simp only [execOp, k' _ _ hx, k' _ _ hy, eqGuard, binOp, Op.stringOp, e1, e2] <;> simp
theorem S0.addS {a b : Str} {T U} (hx : ev f x = some (sv a)) (hy : ev f y = some (sv b)) (hl : a.length + b.length ≤ 9223372036854775807) : S0 P f SL ⟨d, .binOp .add T x y U, ty, p, af, gd⟩ (sv (a ++ b)) :=
  S0.pure (by intro c; simp) (by intro c; simp) fun ρ w k' => by
    have h1 : ¬ ((((⟨⟨a⟩⟩ : ByteArray).size + (⟨⟨b⟩⟩ : ByteArray).size : Nat) : Int) > IntKind.i64.max) := by
      have : IntKind.i64.max = 9223372036854775807 := rfl
      rw [this, sv_size, sv_size]; omega
    have e : (⟨⟨a⟩⟩ : ByteArray) ++ ⟨⟨b⟩⟩ = ⟨⟨a ++ b⟩⟩ := by
      apply ByteArray.ext
      rw [ByteArray.data_append]; simp
    simp only [execOp, k' _ _ hx, k' _ _ hy, eqGuard, binOp, Op.stringOp, h1, if_false, e]; simp
theorem S0.indexSt {l : Str} {i : Nat} {c : UInt8} [kk : Und P T .string] (hx : ev f x = some (sv l)) (hy : ev f y = some (.int .i64 (i : Int))) (hi : l[i]? = some c) : S0 P f SL ⟨d, .index T x y, ty, p, af, gd⟩ (.int .u8 (c.toNat : Int)) :=
  S0.pure (by intro c; simp) (by intro c; simp) fun ρ w k' => by
    simp only [execOp, k' _ _ hx, k' _ _ hy, Instr.index, asIntOf, Sem.run_bind, Sem.run_pure, Result.andThen_ok, run_underlying kk.eq]
    rw [if_pos (by omega), Int.toNat_natCast, sv_get?, hi]
    rfl
theorem S0.sliceSt {l : Str} {lo hi : Option Operand} {i j : Nat} [kk : Und P T .string] (hx : ev f x = some (sv l))
    (hlo : match lo with | none => i = 0 | some y => ev f y = some (.int .i64 i)) (hhi : match hi with | none => j = l.length | some y => ev f y = some (.int .i64 j)) (hij : i ≤ j ∧ j ≤ l.length) :
    S0 P f SL ⟨d, .slice T x lo hi none, ty, p, af, gd⟩ (sv ((l.drop i).take (j - i))) :=
  S0.pure (by intro c; simp) (by intro c; simp) fun ρ w k' => by
    obtain ⟨h1, h2⟩ := hij
    have e1 : ∀ (bd : BoundsCode) (m : Nat), j ≤ m → (Instr.sliceBound (.int .i64 j) m bd).run P w = .ok j w := fun bd m hm => by
      simp only [Instr.sliceBound, asIntOf, Sem.run_bind, Sem.run_pure, Result.andThen_ok]
      rw [if_pos ⟨by omega, by omega⟩]; simp
    have e2 : ∀ (bd : BoundsCode) (m : Nat), i ≤ m → (Instr.sliceBound (.int .i64 i) m bd).run P w = .ok i w := fun bd m hm => by
      simp only [Instr.sliceBound, asIntOf, Sem.run_bind, Sem.run_pure, Result.andThen_ok]
      rw [if_pos ⟨by omega, by omega⟩]; simp
    have eb : (Instr.sliceBounds false l.length l.length (lo.map ρ) (hi.map ρ) none).run P w = .ok (i, j, l.length) w := by
      cases lo with
      | none => cases hi with
        | none => simp only at hlo hhi; subst hlo hhi; simp [Instr.sliceBounds]
        | some yh => simp only at hlo hhi; subst hlo; simp [Instr.sliceBounds, k' _ _ hhi, e1 _ _ h2]
      | some yl => cases hi with
        | none => simp only at hlo hhi; subst hhi; simp [Instr.sliceBounds, k' _ _ hlo, e2 _ _ h1]
        | some yh => simp only at hlo hhi; simp [Instr.sliceBounds, k' _ _ hlo, k' _ _ hhi, e1 _ _ h2, e2 _ _ h1]
    simp only [execOp, k' _ _ hx, Instr.sliceAt, Sem.run_bind, run_underlying kk.eq, Result.andThen_ok, Instr.slice, Option.map_none]
    simp [sv_size, eb, sv_extract]
theorem S1.rangeSt {l : Str} [kk : Und P T .string] (hx : ev f x = some (sv l)) :
    S1 P r ⟨d, .range T x, ty, p, af, gd⟩ f h (newp (.stringIter ⟨⟨l⟩⟩ 0) h) :=
  S1.ofRun (by intro c; simp) fun E R ρ w k st => ⟨_, _, _, by simp [execOp, k _ _ hx, Instr.range, run_underlying kk.eq], ⟨_, rfl, rfl⟩, st.new _⟩
theorem decode_ascii {l : Str} {i : Nat} {c : UInt8} (h : l[i]? = some c) (hc : c.toNat < 128) : Utf8.decode ⟨⟨l⟩⟩ i = (c.toNat, 1) := by
  have hlt : i < l.length := (List.getElem?_eq_some_iff.1 h).1
  have e : (⟨⟨l⟩⟩ : ByteArray).get! (i + 0) = c := by
    show (Array.mk l)[i + 0]! = c
    rw [List.getElem?_eq_getElem hlt, Option.some.injEq] at h
    simp [hlt, h]
  unfold Utf8.decode
  simp only [e]
  rw [if_pos hc]
theorem decode_other {l : Str} {i : Nat} {c : UInt8} (h : l[i]? = some c) (hc : ¬ c.toNat < 128) : 128 ≤ (Utf8.decode ⟨⟨l⟩⟩ i).1 ∧ (Utf8.decode ⟨⟨l⟩⟩ i).1 < 2147483648 := by
  have hlt : i < l.length := (List.getElem?_eq_some_iff.1 h).1
  have e : (⟨⟨l⟩⟩ : ByteArray).get! (i + 0) = c := by
    show (Array.mk l)[i + 0]! = c
    rw [List.getElem?_eq_getElem hlt, Option.some.injEq] at h
    simp [hlt, h]
  have hb : c.toNat < 256 := c.toNat_lt
  unfold Utf8.decode
  simp only [e]
  rw [if_neg hc]
  have hr : Utf8.runeError = 65533 := rfl
  split
  · split
    · simp only; omega
    · simp [hr]
  · split
    · split
      · rename_i hv; simp only [ge_iff_le, Bool.and_eq_true, decide_eq_true_eq] at hv ⊢; omega
      · simp [hr]
    · split
      · split
        · rename_i hv; simp only [ge_iff_le, Bool.and_eq_true, decide_eq_true_eq] at hv ⊢; omega
        · simp [hr]
      · simp [hr]
theorem S1.nextSt {it pos : Nat} {l : Str} {h2 : Nat → Hp} [hi : Has h it (.stringIter ⟨⟨l⟩⟩ pos)] [hu : ∀ q, Upd h it (.stringIter ⟨⟨l⟩⟩ pos) (.stringIter ⟨⟨l⟩⟩ q) (h2 q)] (hx : ev f x = some (.pointer (some ⟨it, 0, none⟩))) (hlt : pos < l.length) :
    S1 P r ⟨d, .next x true, ty, p, af, gd⟩ f h (is (.tuple ⟨[.bool true, .int .i64 (pos : Int), .int .i32 ((Utf8.decode ⟨⟨l⟩⟩ pos).1 : Int)]⟩) (h2 (pos + (Utf8.decode ⟨⟨l⟩⟩ pos).2))) :=
  S1.ofRun (by intro c; simp) fun E R ρ w k st => ⟨_, _, _, by
    have hm := st.has (k := hi)
    have e : (getObj it).run P w = .ok (.stringIter ⟨⟨l⟩⟩ pos) w := by simp [getObj, Sem.run, hm]
    simp only [execOp, k _ _ hx, Instr.next, Sem.run_bind, e, Result.andThen_ok, sv_size, hlt, if_true, run_setObj hm (by intro a b c; simp), Sem.run_pure, goInt], ⟨rfl, rfl⟩, st.upd (k := hu _)⟩
theorem S1.nextStEnd {it pos : Nat} {l : Str} [hi : Has h it (.stringIter ⟨⟨l⟩⟩ pos)] (hx : ev f x = some (.pointer (some ⟨it, 0, none⟩))) (hlt : ¬ pos < l.length) :
    S1 P r ⟨d, .next x true, ty, p, af, gd⟩ f h (is (.tuple ⟨[.bool false]⟩) h) :=
  S1.ofRun (by intro c; simp) fun E R ρ w k st => ⟨_, _, _, by
    have hm := st.has (k := hi)
    have e : (getObj it).run P w = .ok (.stringIter ⟨⟨l⟩⟩ pos) w := by simp [getObj, Sem.run, hm]
    simp only [execOp, k _ _ hx, Instr.next, Sem.run_bind, e, Result.andThen_ok, sv_size, hlt, if_false, Sem.run_pure], ⟨rfl, rfl⟩, st⟩
end
end Go.Proofs.YtipljeomgdomnaaGreatDoor
/- Eq -/
/-
  Structs compared; structs as keys of maps.
-/
namespace Go.Proofs.YtipljeomgdomnaaGreatDoor
open Go

/-- The fields of a struct that can be compared: types and offsets. -/
class Flds (P : Program) (T : TypeId) (pl : outParam (List (TypeId × Nat))) : Prop where
  ex : P.underlying T = some (.struct (P.fieldsOf T)) ∧ ((P.fieldsOf T).toList.map fun f => (f.name == "_", f.type, f.offset)) = pl.map (fun p => (false, p.1, p.2)) ∧ P.stoodInHeld T = false ∧ P.eqGuardType P.depth T = false

class GetL (l : List Value) (i : Nat) (v : outParam Value) : Prop where
  eq : l[i]? = some v
instance {a l} : GetL (a :: l) 0 a := ⟨rfl⟩
instance {a l i v} [k : GetL l i v] : GetL (a :: l) (i + 1) v := ⟨by simpa using k.eq⟩

def FldIs (fs : List Field) (pl : List (TypeId × Nat)) : Prop := (fs.map fun f => (f.name == "_", f.type, f.offset)) = pl.map (fun p => (false, p.1, p.2))
theorem FldIs.cons {fs : List Field} {T : TypeId} {off : Nat} {pl : List (TypeId × Nat)} (h : FldIs fs ((T, off) :: pl)) : ∃ f fs', fs = f :: fs' ∧ f.name ≠ "_" ∧ f.type = T ∧ f.offset = off ∧ FldIs fs' pl := by
  cases fs with
  | nil => simp [FldIs] at h
  | cons f fs =>
    simp only [FldIs, List.map_cons, List.cons.injEq, Prod.mk.injEq] at h
    obtain ⟨⟨h1, h2, h3⟩, h4⟩ := h
    exact ⟨f, fs, rfl, by simpa using h1, h2, h3, h4⟩
theorem FldIs.nil {fs : List Field} (h : FldIs fs []) : fs = [] := by cases fs <;> simp_all [FldIs]

class EqPl (P : Program) (pl : List (TypeId × Nat)) (xs ys : List Value) (n : outParam Nat) (b : outParam Bool) : Prop where
  run : ∀ d, n ≤ d → ∀ (fs : List Field), FldIs fs pl → ∀ w, (Op.eqFields d ⟨xs⟩ ⟨ys⟩ fs).run P w = .ok b w
instance {P xs ys} : EqPl P [] xs ys 1 true := ⟨fun d _ fs h w => by rw [h.nil]; simp [Op.eqFields]⟩
theorem run_part_sca {P : Program} {T : TypeId} {D : TypeDesc} (hu : P.underlying T = some D) (hD : isAggD D = false) {xs : List Value} {off : Nat} {v : Value} (hx : xs[off]? = some v) (w : World) : (part T ⟨xs⟩ off).run P w = .ok v w := by
  have h1 : (isAgg T).run P w = .ok false w := by
    cases D <;> first | (simp [isAggD] at hD; done) | simp [isAgg, run_underlying hu]
  simp [part, h1, hx]
instance {P T off pl xs ys k a b n r} [u : Und P T (.int k)] [hx : GetL xs off (.int k a)] [hy : GetL ys off (.int k b)] [q : EqPl P pl xs ys n r] : EqPl P ((T, off) :: pl) xs ys (n + 1) (decide (a = b) && r) := ⟨fun d hd fs h w => by
  obtain ⟨f, fs', rfl, h1, h2, h3, h4⟩ := h.cons
  subst h2 h3
  obtain ⟨d, rfl⟩ : ∃ e, d = e + 1 := ⟨d - 1, by omega⟩
  have e1 := run_part_sca u.eq rfl hx.eq
  have e2 := run_part_sca u.eq rfl hy.eq
  have e4 := q.run (d + 1) (by omega) fs' h4
  have e3 : ∀ w, (Op.equalIn (d + 1) f.type (.int k a) (.int k b)).run P w = .ok (a == b) w := fun w => by
    simp only [Op.equalIn, Sem.run_bind, run_underlying u.eq, Result.andThen_ok]; simp
  simp only [Op.eqFields, h1, ne_eq, not_false_eq_true, if_true, Sem.run_bind, e1, e2, e3, Result.andThen_ok]
  by_cases hab : a = b
  · simp [hab, e4]
  · simp [hab]⟩
instance {P T off pl xs ys a b n r} [u : Und P T .string] [hx : GetL xs off (sv a)] [hy : GetL ys off (sv b)] [q : EqPl P pl xs ys n r] : EqPl P ((T, off) :: pl) xs ys (n + 1) (decide (a = b) && r) := ⟨fun d hd fs h w => by
  obtain ⟨f, fs', rfl, h1, h2, h3, h4⟩ := h.cons
  subst h2 h3
  obtain ⟨d, rfl⟩ : ∃ e, d = e + 1 := ⟨d - 1, by omega⟩
  have e1 := run_part_sca u.eq rfl hx.eq
  have e2 := run_part_sca u.eq rfl hy.eq
  have e4 := q.run (d + 1) (by omega) fs' h4
  have e3 : ∀ w, (Op.equalIn (d + 1) f.type (sv a) (sv b)).run P w = .ok (decide (a = b)) w := fun w => by
    simp only [Op.equalIn, Sem.run_bind, run_underlying u.eq, Result.andThen_ok, Sem.run_pure, ba_beq]
  simp only [Op.eqFields, h1, ne_eq, not_false_eq_true, if_true, Sem.run_bind, e1, e2, e3, Result.andThen_ok]
  by_cases hab : a = b
  · simp [hab, e4]
  · simp [hab]⟩
instance {P T off pl xs ys a b n r} [u : Und P T .bool] [hx : GetL xs off (.bool a)] [hy : GetL ys off (.bool b)] [q : EqPl P pl xs ys n r] : EqPl P ((T, off) :: pl) xs ys (n + 1) (decide (a = b) && r) := ⟨fun d hd fs h w => by
  obtain ⟨f, fs', rfl, h1, h2, h3, h4⟩ := h.cons
  subst h2 h3
  obtain ⟨d, rfl⟩ : ∃ e, d = e + 1 := ⟨d - 1, by omega⟩
  have e1 := run_part_sca u.eq rfl hx.eq
  have e2 := run_part_sca u.eq rfl hy.eq
  have e4 := q.run (d + 1) (by omega) fs' h4
  have e3 : ∀ w, (Op.equalIn (d + 1) f.type (.bool a) (.bool b)).run P w = .ok (a == b) w := fun w => by
    simp only [Op.equalIn, Sem.run_bind, run_underlying u.eq, Result.andThen_ok, Sem.run_pure]
  simp only [Op.eqFields, h1, ne_eq, not_false_eq_true, if_true, Sem.run_bind, e1, e2, e3, Result.andThen_ok]
  by_cases hab : a = b
  · simp [hab, e4]
  · simp [hab]⟩
theorem run_eqAg {P : Program} {T : TypeId} {pl : List (TypeId × Nat)} {xs ys : List Value} {n : Nat} {r : Bool} [u : Flds P T pl] [q : EqPl P pl xs ys n r] (d : Nat) (hd : n + 1 ≤ d) (w : World) : (Op.equalIn d T (.agg ⟨xs⟩) (.agg ⟨ys⟩)).run P w = .ok r w := by
  obtain ⟨d, rfl⟩ : ∃ e, d = e + 1 := ⟨d - 1, by omega⟩
  rw [run_equalIn_struct w d T ⟨xs⟩ ⟨ys⟩ u.ex.1 u.ex.2.2.1]
  exact q.run d (by omega) _ u.ex.2.1 w
theorem run_part_ag {P : Program} {T : TypeId} {pl : List (TypeId × Nat)} {sz by_ : Nat} {zv : Value} [u : Flds P T pl] [i : Inf P T sz by_ zv] {xs xs' : List Value} {off : Nat} [s : SubL off sz xs xs'] (w : World) : (part T ⟨xs⟩ off).run P w = .ok (.agg ⟨xs'⟩) w := by
  have h1 : (isAgg T).run P w = .ok true w := run_isAggD u.ex.1 w
  have e : (⟨xs⟩ : Array Value).extract off (off + sz) = ⟨xs'⟩ := by
    apply Array.toList_inj.1
    rw [Array.toList_extract, List.extract_eq_take_drop]
    show (xs.drop off).take (off + sz - off) = xs'
    rw [Nat.add_sub_cancel_left, s.eq.1]
  simp [part, h1, run_sizeOf (k := i), s.eq.1]
instance {P T off pl pl2 sz by_ zv xs ys xs' ys' n n2 r r2} [u : Flds P T pl2] [i : Inf P T sz by_ zv] [hx : SubL off sz xs xs'] [hy : SubL off sz ys ys'] [q2 : EqPl P pl2 xs' ys' n2 r2] [q : EqPl P pl xs ys n r] : EqPl P ((T, off) :: pl) xs ys (n + n2 + 1) (r2 && r) := ⟨fun d hd fs h w => by
  obtain ⟨f, fs', rfl, h1, h2, h3, h4⟩ := h.cons
  subst h2 h3
  have e1 : ∀ w, (part f.type ⟨xs⟩ f.offset).run P w = .ok (.agg ⟨xs'⟩) w := fun w => run_part_ag (u := u) (i := i) (s := hx) w
  have e2 : ∀ w, (part f.type ⟨ys⟩ f.offset).run P w = .ok (.agg ⟨ys'⟩) w := fun w => run_part_ag (u := u) (i := i) (s := hy) w
  have e4 := q.run d (by omega) fs' h4
  have e3 : ∀ w, (Op.equalIn d f.type (.agg ⟨xs'⟩) (.agg ⟨ys'⟩)).run P w = .ok r2 w := fun w => run_eqAg (u := u) (q := q2) d (by omega) w
  simp only [Op.eqFields, h1, ne_eq, not_false_eq_true, if_true, Sem.run_bind, e1, e2, e3, Result.andThen_ok]
  cases r2 <;> simp [e4]⟩

/-- What may be looked at as a key. -/
class ChkPl (P : Program) (pl : List (TypeId × Nat)) (xs : List Value) (n : outParam Nat) : Prop where
  run : ∀ e d, n ≤ d → ∀ (fs : List Field), FldIs fs pl → ∀ f ∈ fs, f.name ≠ "_" ∧ ∃ v, (∀ w, (part f.type ⟨xs⟩ f.offset).run P w = .ok v w) ∧ ∀ w, (Instr.checkKey e d f.type v).run P w = .ok () w
instance {P xs} : ChkPl P [] xs 0 := ⟨fun e d _ fs h f hf => by rw [h.nil] at hf; cases hf⟩
instance {P T off pl xs k a n} [u : Und P T (.int k)] [hx : GetL xs off (.int k a)] [q : ChkPl P pl xs n] : ChkPl P ((T, off) :: pl) xs (n + 1) := ⟨fun e d hd fs h f hf => by
  obtain ⟨f0, fs', rfl, h1, h2, h3, h4⟩ := h.cons
  subst h2 h3
  rcases List.mem_cons.1 hf with rfl | hf
  · obtain ⟨d, rfl⟩ : ∃ e, d = e + 1 := ⟨d - 1, by omega⟩
    exact ⟨h1, _, run_part_sca u.eq rfl hx.eq, fun w => run_checkKey_int u.eq e d _ w⟩
  · exact q.run e d (by omega) fs' h4 f hf⟩
theorem run_chkAg {P : Program} {T : TypeId} {pl : List (TypeId × Nat)} {xs : List Value} {n : Nat} [u : Flds P T pl] [q : ChkPl P pl xs n] (e : Bool) (d : Nat) (hd : n + 1 ≤ d) (w : World) : (Instr.checkKey e d T (.agg ⟨xs⟩)).run P w = .ok () w := by
  obtain ⟨d, rfl⟩ : ∃ e, d = e + 1 := ⟨d - 1, by omega⟩
  rw [Instr.checkKey]
  simp only [Sem.run_bind, run_underlying u.ex.1, Result.andThen_ok]
  rw [← Array.forIn_toList]
  have each := q.run e d (by omega) _ u.ex.2.1
  generalize (P.fieldsOf T).toList = L at each
  induction L with
  | nil => simp
  | cons f L ih =>
    obtain ⟨hn, v, p1, p2⟩ := each f (by simp)
    simp only [List.forIn_cons, Sem.run_bind, hn, ne_eq, not_false_eq_true, if_true, Result.andThen_ok, p1, p2, Sem.run_pure]
    exact ih (fun y hy => each y (by simp [hy]))
instance {P T off pl pl2 sz by_ zv xs xs' n n2} [u : Flds P T pl2] [i : Inf P T sz by_ zv] [hx : SubL off sz xs xs'] [q2 : ChkPl P pl2 xs' n2] [q : ChkPl P pl xs n] : ChkPl P ((T, off) :: pl) xs (n + n2 + 1) := ⟨fun e d hd fs h f hf => by
  obtain ⟨f0, fs', rfl, h1, h2, h3, h4⟩ := h.cons
  subst h2 h3
  rcases List.mem_cons.1 hf with rfl | hf
  · exact ⟨h1, _, fun w => run_part_ag (u := u) (i := i) (s := hx) w, fun w => run_chkAg (u := u) (q := q2) e d (by omega) w⟩
  · exact q.run e d (by omega) fs' h4 f hf⟩

/-- structs as keys -/
theorem MKey.ofAg {P : Program} {K : TypeId} {κ : Type} [DecidableEq κ] {en : κ → List Value} {pl : List (TypeId × Nat)} {n m : Nat} [u : Flds P K pl] (hn : n + 1 ≤ 10000) (hm : m + 1 ≤ 10000) (he : ∀ a b, EqPl P pl (en a) (en b) n (decide (a = b))) (hc : ∀ a, ChkPl P pl (en a) m) (hs : ∀ a, Instr.sameBits 10000 (.agg ⟨en a⟩) (.agg ⟨en a⟩) = true) : MKey P K (fun k => .agg ⟨en k⟩) where
  chk := fun e k w => run_chkAg (u := u) (q := hc k) e 10000 hm w
  same := hs
  fnd := fun k L w => by
    rw [run_findKey_eq w (by rw [u.ex.1])]
    have key : ∀ (L : ML κ) (i : Nat), (Instr.findAsking K (.agg ⟨en k⟩) (L.map (entM fun k => .agg ⟨en k⟩)) i).run P w = .ok (fndM L k i) w := by
      intro L
      induction L with
      | nil => intro i; simp [Instr.findAsking, fndM]
      | cons x L ih =>
        intro i
        have e1 : (Op.equal K (.agg ⟨en k⟩) (.agg ⟨en x.1⟩)).run P w = .ok (decide (k = x.1)) w := run_eqAg (u := u) (q := he k x.1) 10000 hn w
        simp only [List.map_cons, entM, Instr.findAsking, Sem.run_bind, e1, Result.andThen_ok, fndM]
        by_cases hk : k = x.1
        · simp [hk]
        · simp only [hk, decide_false, Bool.false_eq_true, if_false]; exact ih (i + 1)
    exact key L 0

section
variable {P : Program} {r : Option Nat} {Q : Exit → Fr → Hp → Prop} {f : Fr} {h h' : Hp} {d : Option Tmp} {ty : TypeId} {p : String} {af : Array Edge} {gd : Option (Nat × Bool)} {S : Hp} {SL : List Blk}
theorem S0.eqAg {T U : TypeId} {x y : Operand} {pl : List (TypeId × Nat)} {xs ys : List Value} {n : Nat} {q c : Bool} {op : BinOp} [u : Flds P T pl] (hx : ev f x = some (.agg ⟨xs⟩)) (hy : ev f y = some (.agg ⟨ys⟩)) [k : EqPl P pl xs ys n q] (hn : Nat.ble (n + 1) 10000 = true) (hb : (match op with | .eql => some q | .neq => some (!q) | _ => none) = some c) :
    S0 P f SL ⟨d, .binOp op T x y U, ty, p, af, gd⟩ (.bool c) :=
  S0.pure (by intro c; simp) (by intro c; simp) fun ρ w k' => by
    have e1 : (Op.equal T (.agg ⟨xs⟩) (.agg ⟨ys⟩)).run P w = .ok q w := run_eqAg (u := u) (q := k) 10000 (Nat.le_of_ble_eq_true hn) w
    cases op <;> simp only [Option.some.injEq, reduceCtorEq] at hb <;> subst hb <;> simp [execOp, k' _ _ hx, k' _ _ hy, eqGuard, binOp, e1, u.ex.2.2.2]
theorem run_equalInM {T K V} [u : Und P T (.map K V)] (n : Nat) (a b : Option Nat) (hn : (a.isNone || b.isNone) = true) (w : World) : (Op.equalIn (n + 1) T (.map a) (.map b)).run P w = .ok (a.isNone && b.isNone) w := by
  cases a <;> cases b <;> simp at hn <;> simp only [Op.equalIn, Sem.run_bind, run_underlying u.eq, Result.andThen_ok, Sem.run_pure] <;> rfl
theorem run_equalM {T K V} [u : Und P T (.map K V)] (a b : Option Nat) (hn : (a.isNone || b.isNone) = true) (w : World) : (Op.equal T (.map a) (.map b)).run P w = .ok (a.isNone && b.isNone) w := run_equalInM 9999 a b hn w
theorem S0.nilM {T U K V : TypeId} {x y : Operand} {a b : Option Nat} {op : BinOp} [u : Und P T (.map K V)] (hx : ev f x = some (.map a)) (hy : ev f y = some (.map b)) (hn : (a.isNone || b.isNone) = true) {c : Bool}
    (hb : (match op with | .eql => some (a.isNone && b.isNone) | .neq => some (!(a.isNone && b.isNone)) | _ => none) = some c) : S0 P f SL ⟨d, .binOp op T x y U, ty, p, af, gd⟩ (.bool c) :=
  S0.pure (by intro c; simp) (by intro c; simp) fun ρ w k' => by
    have e1 := run_equalM (P := P) (T := T) (u := u) a b hn w
    cases op <;> simp only [Option.some.injEq, reduceCtorEq] at hb <;> subst hb <;> simp [execOp, k' _ _ hx, k' _ _ hy, eqGuard, binOp, e1]
end
end Go.Proofs.YtipljeomgdomnaaGreatDoor
/- Types -/
namespace Go.Proofs.YtipljeomgdomnaaGreatDoor
open Go
instance : Inf Tryz.prog 0 1 0 (.tuple #[]) := ⟨by kernel_rfl⟩
instance : Sca Tryz.prog 1 := ⟨_, Tryz.underlying1, rfl⟩
instance : Inf Tryz.prog 1 1 8 (.nilFunc) := ⟨by kernel_rfl⟩
theorem und2 : Tryz.prog.underlying 2 = some (.int .i64) := by kernel_rfl
instance : Und Tryz.prog 2 (.int .i64) := ⟨und2⟩
instance : Sca Tryz.prog 2 := ⟨_, und2, rfl⟩
instance : Inf Tryz.prog 2 1 8 (.int .i64 0) := ⟨by kernel_rfl⟩
theorem und3 : Tryz.prog.underlying 3 = some (.int .i64) := by kernel_rfl
instance : Und Tryz.prog 3 (.int .i64) := ⟨und3⟩
instance : Sca Tryz.prog 3 := ⟨_, und3, rfl⟩
instance : Inf Tryz.prog 3 1 8 (.int .i64 0) := ⟨by kernel_rfl⟩
theorem und4 : Tryz.prog.underlying 4 = some (.bool) := by kernel_rfl
instance : Und Tryz.prog 4 (.bool) := ⟨und4⟩
instance : Sca Tryz.prog 4 := ⟨_, und4, rfl⟩
instance : Inf Tryz.prog 4 1 1 (.bool false) := ⟨by kernel_rfl⟩
theorem und5 : Tryz.prog.underlying 5 = some (.int .u8) := by kernel_rfl
instance : Und Tryz.prog 5 (.int .u8) := ⟨und5⟩
instance : Sca Tryz.prog 5 := ⟨_, und5, rfl⟩
instance : Inf Tryz.prog 5 1 1 (.int .u8 0) := ⟨by kernel_rfl⟩
theorem und6 : Tryz.prog.underlying 6 = some (.int .u8) := by kernel_rfl
instance : Und Tryz.prog 6 (.int .u8) := ⟨und6⟩
instance : Sca Tryz.prog 6 := ⟨_, und6, rfl⟩
instance : Inf Tryz.prog 6 1 1 (.int .u8 0) := ⟨by kernel_rfl⟩
instance : Agg Tryz.prog 8 := ⟨_, Tryz.underlying8, rfl⟩
instance : Stru Tryz.prog 8 [(0, 1), (1, 1), (2, 1), (3, 1)] := ⟨_, Tryz.underlying8, by kernel_rfl⟩
instance : Fld Tryz.prog 8 0 0 2 := ⟨_, _, Tryz.underlying8, rfl, rfl, rfl⟩
instance : Fld Tryz.prog 8 1 1 3 := ⟨_, _, Tryz.underlying8, rfl, rfl, rfl⟩
instance : Fld Tryz.prog 8 2 2 4 := ⟨_, _, Tryz.underlying8, rfl, rfl, rfl⟩
instance : Fld Tryz.prog 8 3 3 6 := ⟨_, _, Tryz.underlying8, rfl, rfl, rfl⟩
instance : Inf Tryz.prog 8 4 24 (.agg #[.int .i64 0, .int .i64 0, .bool false, .int .u8 0]) := ⟨by kernel_rfl⟩
theorem und9 : Tryz.prog.underlying 9 = some (.string) := by kernel_rfl
instance : Und Tryz.prog 9 (.string) := ⟨und9⟩
instance : Sca Tryz.prog 9 := ⟨_, und9, rfl⟩
instance : Inf Tryz.prog 9 1 16 (.string ByteArray.empty) := ⟨by kernel_rfl⟩
theorem und10 : Tryz.prog.underlying 10 = some (.string) := by kernel_rfl
instance : Und Tryz.prog 10 (.string) := ⟨und10⟩
instance : Sca Tryz.prog 10 := ⟨_, und10, rfl⟩
instance : Inf Tryz.prog 10 1 16 (.string ByteArray.empty) := ⟨by kernel_rfl⟩
theorem und11 : Tryz.prog.underlying 11 = some (.string) := by kernel_rfl
instance : Und Tryz.prog 11 (.string) := ⟨und11⟩
instance : Sca Tryz.prog 11 := ⟨_, und11, rfl⟩
instance : Inf Tryz.prog 11 1 16 (.string ByteArray.empty) := ⟨by kernel_rfl⟩
theorem und12 : Tryz.prog.underlying 12 = some (.int .u64) := by kernel_rfl
instance : Und Tryz.prog 12 (.int .u64) := ⟨und12⟩
instance : Sca Tryz.prog 12 := ⟨_, und12, rfl⟩
instance : Inf Tryz.prog 12 1 8 (.int .u64 0) := ⟨by kernel_rfl⟩
instance : Agg Tryz.prog 14 := ⟨_, Tryz.underlying14, rfl⟩
instance : Stru Tryz.prog 14 [(0, 1), (1, 1)] := ⟨_, Tryz.underlying14, by kernel_rfl⟩
instance : Fld Tryz.prog 14 0 0 9 := ⟨_, _, Tryz.underlying14, rfl, rfl, rfl⟩
instance : Fld Tryz.prog 14 1 1 12 := ⟨_, _, Tryz.underlying14, rfl, rfl, rfl⟩
instance : Inf Tryz.prog 14 2 24 (.agg #[.string ByteArray.empty, .int .u64 0]) := ⟨by kernel_rfl⟩
theorem und15 : Tryz.prog.underlying 15 = some (.pointer 185) := by kernel_rfl
instance : Und Tryz.prog 15 (.pointer 185) := ⟨und15⟩
instance : Sca Tryz.prog 15 := ⟨_, und15, rfl⟩
instance : Inf Tryz.prog 15 1 8 (.pointer none) := ⟨by kernel_rfl⟩
theorem und16 : Tryz.prog.underlying 16 = some (.pointer 188) := by kernel_rfl
instance : Und Tryz.prog 16 (.pointer 188) := ⟨und16⟩
instance : Sca Tryz.prog 16 := ⟨_, und16, rfl⟩
instance : Inf Tryz.prog 16 1 8 (.pointer none) := ⟨by kernel_rfl⟩
theorem und17 : Tryz.prog.underlying 17 = some (.pointer 196) := by kernel_rfl
instance : Und Tryz.prog 17 (.pointer 196) := ⟨und17⟩
instance : Sca Tryz.prog 17 := ⟨_, und17, rfl⟩
instance : Inf Tryz.prog 17 1 8 (.pointer none) := ⟨by kernel_rfl⟩
instance : Agg Tryz.prog 19 := ⟨_, Tryz.underlying19, rfl⟩
instance : Stru Tryz.prog 19 [(0, 1)] := ⟨_, Tryz.underlying19, by kernel_rfl⟩
instance : Fld Tryz.prog 19 0 0 17 := ⟨_, _, Tryz.underlying19, rfl, rfl, rfl⟩
instance : Inf Tryz.prog 19 1 8 (.agg #[.pointer none]) := ⟨by kernel_rfl⟩
theorem und21 : Tryz.prog.underlying 21 = some (.int .i32) := by kernel_rfl
instance : Und Tryz.prog 21 (.int .i32) := ⟨und21⟩
instance : Sca Tryz.prog 21 := ⟨_, und21, rfl⟩
instance : Inf Tryz.prog 21 1 4 (.int .i32 0) := ⟨by kernel_rfl⟩
theorem und22 : Tryz.prog.underlying 22 = some (.slice 33) := by kernel_rfl
instance : Und Tryz.prog 22 (.slice 33) := ⟨und22⟩
instance : Sca Tryz.prog 22 := ⟨_, und22, rfl⟩
instance : Inf Tryz.prog 22 1 24 (.slice none 0 0) := ⟨by kernel_rfl⟩
theorem und23 : Tryz.prog.underlying 23 = some (.slice 9) := by kernel_rfl
instance : Und Tryz.prog 23 (.slice 9) := ⟨und23⟩
instance : Sca Tryz.prog 23 := ⟨_, und23, rfl⟩
instance : Inf Tryz.prog 23 1 24 (.slice none 0 0) := ⟨by kernel_rfl⟩
theorem und25 : Tryz.prog.underlying 25 = some (.pointer 59) := by kernel_rfl
instance : Und Tryz.prog 25 (.pointer 59) := ⟨und25⟩
instance : Sca Tryz.prog 25 := ⟨_, und25, rfl⟩
instance : Inf Tryz.prog 25 1 8 (.pointer none) := ⟨by kernel_rfl⟩
theorem und27 : Tryz.prog.underlying 27 = some (.pointer 30) := by kernel_rfl
instance : Und Tryz.prog 27 (.pointer 30) := ⟨und27⟩
instance : Sca Tryz.prog 27 := ⟨_, und27, rfl⟩
instance : Inf Tryz.prog 27 1 8 (.pointer none) := ⟨by kernel_rfl⟩
theorem und28 : Tryz.prog.underlying 28 = some (.slice 65) := by kernel_rfl
instance : Und Tryz.prog 28 (.slice 65) := ⟨und28⟩
instance : Sca Tryz.prog 28 := ⟨_, und28, rfl⟩
instance : Inf Tryz.prog 28 1 24 (.slice none 0 0) := ⟨by kernel_rfl⟩
instance : Agg Tryz.prog 30 := ⟨_, Tryz.underlying30, rfl⟩
instance : Stru Tryz.prog 30 [(0, 1), (1, 1)] := ⟨_, Tryz.underlying30, by kernel_rfl⟩
instance : Fld Tryz.prog 30 0 0 28 := ⟨_, _, Tryz.underlying30, rfl, rfl, rfl⟩
instance : Fld Tryz.prog 30 1 1 28 := ⟨_, _, Tryz.underlying30, rfl, rfl, rfl⟩
instance : Inf Tryz.prog 30 2 48 (.agg #[.slice none 0 0, .slice none 0 0]) := ⟨by kernel_rfl⟩
instance : Agg Tryz.prog 33 := ⟨_, Tryz.underlying33, rfl⟩
instance : Stru Tryz.prog 33 [(0, 1), (1, 1), (2, 1), (3, 1), (4, 1)] := ⟨_, Tryz.underlying33, by kernel_rfl⟩
instance : Flds Tryz.prog 33 [(3, 0), (3, 1), (9, 2), (4, 3), (9, 4)] := ⟨⟨by kernel_rfl, by kernel_rfl, by kernel_rfl, by kernel_rfl⟩⟩
instance : Fld Tryz.prog 33 0 0 3 := ⟨_, _, Tryz.underlying33, rfl, rfl, rfl⟩
instance : Fld Tryz.prog 33 1 1 3 := ⟨_, _, Tryz.underlying33, rfl, rfl, rfl⟩
instance : Fld Tryz.prog 33 2 2 9 := ⟨_, _, Tryz.underlying33, rfl, rfl, rfl⟩
instance : Fld Tryz.prog 33 3 3 4 := ⟨_, _, Tryz.underlying33, rfl, rfl, rfl⟩
instance : Fld Tryz.prog 33 4 4 9 := ⟨_, _, Tryz.underlying33, rfl, rfl, rfl⟩
instance : Inf Tryz.prog 33 5 56 (.agg #[.int .i64 0, .int .i64 0, .string ByteArray.empty, .bool false, .string ByteArray.empty]) := ⟨by kernel_rfl⟩
theorem und40 : Tryz.prog.underlying 40 = some (.slice 3) := by kernel_rfl
instance : Und Tryz.prog 40 (.slice 3) := ⟨und40⟩
instance : Sca Tryz.prog 40 := ⟨_, und40, rfl⟩
instance : Inf Tryz.prog 40 1 24 (.slice none 0 0) := ⟨by kernel_rfl⟩
theorem und45 : Tryz.prog.underlying 45 = some (.int .i64) := by kernel_rfl
instance : Und Tryz.prog 45 (.int .i64) := ⟨und45⟩
instance : Sca Tryz.prog 45 := ⟨_, und45, rfl⟩
instance : Inf Tryz.prog 45 1 8 (.int .i64 0) := ⟨by kernel_rfl⟩
instance : Sca Tryz.prog 48 := ⟨_, Tryz.underlying48, rfl⟩
instance : Inf Tryz.prog 48 1 8 (.nilFunc) := ⟨by kernel_rfl⟩
theorem und53 : Tryz.prog.underlying 53 = some (.pointer 81) := by kernel_rfl
instance : Und Tryz.prog 53 (.pointer 81) := ⟨und53⟩
instance : Sca Tryz.prog 53 := ⟨_, und53, rfl⟩
instance : Inf Tryz.prog 53 1 8 (.pointer none) := ⟨by kernel_rfl⟩
instance : Agg Tryz.prog 56 := ⟨_, Tryz.underlying56, rfl⟩
instance : Stru Tryz.prog 56 [(0, 1)] := ⟨_, Tryz.underlying56, by kernel_rfl⟩
instance : Fld Tryz.prog 56 0 0 53 := ⟨_, _, Tryz.underlying56, rfl, rfl, rfl⟩
instance : Inf Tryz.prog 56 1 8 (.agg #[.pointer none]) := ⟨by kernel_rfl⟩
instance : Agg Tryz.prog 57 := ⟨_, Tryz.underlying57, rfl⟩
instance : Stru Tryz.prog 57 [(0, 1)] := ⟨_, Tryz.underlying57, by kernel_rfl⟩
instance : Fld Tryz.prog 57 0 0 53 := ⟨_, _, Tryz.underlying57, rfl, rfl, rfl⟩
instance : Inf Tryz.prog 57 1 8 (.agg #[.pointer none]) := ⟨by kernel_rfl⟩
instance : Agg Tryz.prog 59 := ⟨_, Tryz.underlying59, rfl⟩
instance : Stru Tryz.prog 59 [(0, 1), (1, 1)] := ⟨_, Tryz.underlying59, by kernel_rfl⟩
instance : Fld Tryz.prog 59 0 0 56 := ⟨_, _, Tryz.underlying59, rfl, rfl, rfl⟩
instance : Fld Tryz.prog 59 1 1 57 := ⟨_, _, Tryz.underlying59, rfl, rfl, rfl⟩
instance : Inf Tryz.prog 59 2 16 (.agg #[.pointer none, .pointer none]) := ⟨by kernel_rfl⟩
instance : Agg Tryz.prog 65 := ⟨_, Tryz.underlying65, rfl⟩
instance : Stru Tryz.prog 65 [(0, 1), (1, 1)] := ⟨_, Tryz.underlying65, by kernel_rfl⟩
instance : Flds Tryz.prog 65 [(3, 0), (9, 1)] := ⟨⟨by kernel_rfl, by kernel_rfl, by kernel_rfl, by kernel_rfl⟩⟩
instance : Fld Tryz.prog 65 0 0 3 := ⟨_, _, Tryz.underlying65, rfl, rfl, rfl⟩
instance : Fld Tryz.prog 65 1 1 9 := ⟨_, _, Tryz.underlying65, rfl, rfl, rfl⟩
instance : Inf Tryz.prog 65 2 24 (.agg #[.int .i64 0, .string ByteArray.empty]) := ⟨by kernel_rfl⟩
theorem und66 : Tryz.prog.underlying 66 = some (.pointer 69) := by kernel_rfl
instance : Und Tryz.prog 66 (.pointer 69) := ⟨und66⟩
instance : Sca Tryz.prog 66 := ⟨_, und66, rfl⟩
instance : Inf Tryz.prog 66 1 8 (.pointer none) := ⟨by kernel_rfl⟩
theorem und67 : Tryz.prog.underlying 67 = some (.slice 96) := by kernel_rfl
instance : Und Tryz.prog 67 (.slice 96) := ⟨und67⟩
instance : Sca Tryz.prog 67 := ⟨_, und67, rfl⟩
instance : Inf Tryz.prog 67 1 24 (.slice none 0 0) := ⟨by kernel_rfl⟩
instance : Agg Tryz.prog 69 := ⟨_, Tryz.underlying69, rfl⟩
instance : Stru Tryz.prog 69 [(0, 1)] := ⟨_, Tryz.underlying69, by kernel_rfl⟩
instance : Fld Tryz.prog 69 0 0 67 := ⟨_, _, Tryz.underlying69, rfl, rfl, rfl⟩
instance : Inf Tryz.prog 69 1 24 (.agg #[.slice none 0 0]) := ⟨by kernel_rfl⟩
theorem und73 : Tryz.prog.underlying 73 = some (.int .i64) := by kernel_rfl
instance : Und Tryz.prog 73 (.int .i64) := ⟨und73⟩
instance : Sca Tryz.prog 73 := ⟨_, und73, rfl⟩
instance : Inf Tryz.prog 73 1 8 (.int .i64 0) := ⟨by kernel_rfl⟩
theorem und75 : Tryz.prog.underlying 75 = some (.int .i64) := by kernel_rfl
instance : Und Tryz.prog 75 (.int .i64) := ⟨und75⟩
instance : Sca Tryz.prog 75 := ⟨_, und75, rfl⟩
instance : Inf Tryz.prog 75 1 8 (.int .i64 0) := ⟨by kernel_rfl⟩
theorem und78 : Tryz.prog.underlying 78 = some (.pointer 101) := by kernel_rfl
instance : Und Tryz.prog 78 (.pointer 101) := ⟨und78⟩
instance : Sca Tryz.prog 78 := ⟨_, und78, rfl⟩
instance : Inf Tryz.prog 78 1 8 (.pointer none) := ⟨by kernel_rfl⟩
instance : Agg Tryz.prog 81 := ⟨_, Tryz.underlying81, rfl⟩
instance : Stru Tryz.prog 81 [(0, 1)] := ⟨_, Tryz.underlying81, by kernel_rfl⟩
instance : Fld Tryz.prog 81 0 0 78 := ⟨_, _, Tryz.underlying81, rfl, rfl, rfl⟩
instance : Inf Tryz.prog 81 1 8 (.agg #[.pointer none]) := ⟨by kernel_rfl⟩
theorem und87 : Tryz.prog.underlying 87 = some (.map 3 3) := by kernel_rfl
instance : Und Tryz.prog 87 (.map 3 3) := ⟨und87⟩
instance : Sca Tryz.prog 87 := ⟨_, und87, rfl⟩
instance : Inf Tryz.prog 87 1 8 (.map none) := ⟨by kernel_rfl⟩
instance : Sca Tryz.prog 88 := ⟨_, Tryz.underlying88, rfl⟩
instance : Inf Tryz.prog 88 1 8 (.nilFunc) := ⟨by kernel_rfl⟩
instance : Sca Tryz.prog 92 := ⟨_, Tryz.underlying92, rfl⟩
instance : Inf Tryz.prog 92 1 8 (.nilFunc) := ⟨by kernel_rfl⟩
instance : Agg Tryz.prog 96 := ⟨_, Tryz.underlying96, rfl⟩
instance : Stru Tryz.prog 96 [(0, 1), (1, 1), (2, 1)] := ⟨_, Tryz.underlying96, by kernel_rfl⟩
instance : Flds Tryz.prog 96 [(9, 0), (3, 1), (3, 2)] := ⟨⟨by kernel_rfl, by kernel_rfl, by kernel_rfl, by kernel_rfl⟩⟩
instance : Fld Tryz.prog 96 0 0 9 := ⟨_, _, Tryz.underlying96, rfl, rfl, rfl⟩
instance : Fld Tryz.prog 96 1 1 3 := ⟨_, _, Tryz.underlying96, rfl, rfl, rfl⟩
instance : Fld Tryz.prog 96 2 2 3 := ⟨_, _, Tryz.underlying96, rfl, rfl, rfl⟩
instance : Inf Tryz.prog 96 3 32 (.agg #[.string ByteArray.empty, .int .i64 0, .int .i64 0]) := ⟨by kernel_rfl⟩
theorem und99 : Tryz.prog.underlying 99 = some (.map 9 78) := by kernel_rfl
instance : Und Tryz.prog 99 (.map 9 78) := ⟨und99⟩
instance : Sca Tryz.prog 99 := ⟨_, und99, rfl⟩
instance : Inf Tryz.prog 99 1 8 (.map none) := ⟨by kernel_rfl⟩
instance : Agg Tryz.prog 101 := ⟨_, Tryz.underlying101, rfl⟩
instance : Stru Tryz.prog 101 [(0, 1), (1, 1)] := ⟨_, Tryz.underlying101, by kernel_rfl⟩
instance : Fld Tryz.prog 101 0 0 99 := ⟨_, _, Tryz.underlying101, rfl, rfl, rfl⟩
instance : Fld Tryz.prog 101 1 1 87 := ⟨_, _, Tryz.underlying101, rfl, rfl, rfl⟩
instance : Inf Tryz.prog 101 2 16 (.agg #[.map none, .map none]) := ⟨by kernel_rfl⟩
instance : Sca Tryz.prog 107 := ⟨_, Tryz.underlying107, rfl⟩
instance : Inf Tryz.prog 107 1 8 (.nilFunc) := ⟨by kernel_rfl⟩
theorem und110 : Tryz.prog.underlying 110 = some (.slice 23) := by kernel_rfl
instance : Und Tryz.prog 110 (.slice 23) := ⟨und110⟩
instance : Sca Tryz.prog 110 := ⟨_, und110, rfl⟩
instance : Inf Tryz.prog 110 1 24 (.slice none 0 0) := ⟨by kernel_rfl⟩
theorem und113 : Tryz.prog.underlying 113 = some (.pointer 23) := by kernel_rfl
instance : Und Tryz.prog 113 (.pointer 23) := ⟨und113⟩
instance : Sca Tryz.prog 113 := ⟨_, und113, rfl⟩
instance : Inf Tryz.prog 113 1 8 (.pointer none) := ⟨by kernel_rfl⟩
instance : Sca Tryz.prog 118 := ⟨_, Tryz.underlying118, rfl⟩
instance : Inf Tryz.prog 118 1 8 (.nilFunc) := ⟨by kernel_rfl⟩
instance : Sca Tryz.prog 121 := ⟨_, Tryz.underlying121, rfl⟩
instance : Inf Tryz.prog 121 1 8 (.nilFunc) := ⟨by kernel_rfl⟩
theorem und124 : Tryz.prog.underlying 124 = some (.int .u64) := by kernel_rfl
instance : Und Tryz.prog 124 (.int .u64) := ⟨und124⟩
instance : Sca Tryz.prog 124 := ⟨_, und124, rfl⟩
instance : Inf Tryz.prog 124 1 8 (.int .u64 0) := ⟨by kernel_rfl⟩
theorem und132 : Tryz.prog.underlying 132 = some (.int .i64) := by kernel_rfl
instance : Und Tryz.prog 132 (.int .i64) := ⟨und132⟩
instance : Sca Tryz.prog 132 := ⟨_, und132, rfl⟩
instance : Inf Tryz.prog 132 1 8 (.int .i64 0) := ⟨by kernel_rfl⟩
theorem und140 : Tryz.prog.underlying 140 = some (.int .u32) := by kernel_rfl
instance : Und Tryz.prog 140 (.int .u32) := ⟨und140⟩
instance : Sca Tryz.prog 140 := ⟨_, und140, rfl⟩
instance : Inf Tryz.prog 140 1 4 (.int .u32 0) := ⟨by kernel_rfl⟩
theorem und142 : Tryz.prog.underlying 142 = some (.int .u64) := by kernel_rfl
instance : Und Tryz.prog 142 (.int .u64) := ⟨und142⟩
instance : Sca Tryz.prog 142 := ⟨_, und142, rfl⟩
instance : Inf Tryz.prog 142 1 8 (.int .u64 0) := ⟨by kernel_rfl⟩
theorem und143 : Tryz.prog.underlying 143 = some (.pointer 146) := by kernel_rfl
instance : Und Tryz.prog 143 (.pointer 146) := ⟨und143⟩
instance : Sca Tryz.prog 143 := ⟨_, und143, rfl⟩
instance : Inf Tryz.prog 143 1 8 (.pointer none) := ⟨by kernel_rfl⟩
theorem und144 : Tryz.prog.underlying 144 = some (.slice 5) := by kernel_rfl
instance : Und Tryz.prog 144 (.slice 5) := ⟨und144⟩
instance : Sca Tryz.prog 144 := ⟨_, und144, rfl⟩
instance : Inf Tryz.prog 144 1 24 (.slice none 0 0) := ⟨by kernel_rfl⟩
instance : Agg Tryz.prog 146 := ⟨_, Tryz.underlying146, rfl⟩
instance : Stru Tryz.prog 146 [(0, 1), (1, 1)] := ⟨_, Tryz.underlying146, by kernel_rfl⟩
instance : Fld Tryz.prog 146 0 0 143 := ⟨_, _, Tryz.underlying146, rfl, rfl, rfl⟩
instance : Fld Tryz.prog 146 1 1 144 := ⟨_, _, Tryz.underlying146, rfl, rfl, rfl⟩
instance : Inf Tryz.prog 146 2 32 (.agg #[.pointer none, .slice none 0 0]) := ⟨by kernel_rfl⟩
instance : Sca Tryz.prog 149 := ⟨_, Tryz.underlying149, rfl⟩
instance : Inf Tryz.prog 149 1 16 (.nilIface) := ⟨by kernel_rfl⟩
theorem und161 : Tryz.prog.underlying 161 = some (.int .u64) := by kernel_rfl
instance : Und Tryz.prog 161 (.int .u64) := ⟨und161⟩
instance : Sca Tryz.prog 161 := ⟨_, und161, rfl⟩
instance : Inf Tryz.prog 161 1 8 (.int .u64 0) := ⟨by kernel_rfl⟩
theorem und165 : Tryz.prog.underlying 165 = some (.pointer 3) := by kernel_rfl
instance : Und Tryz.prog 165 (.pointer 3) := ⟨und165⟩
instance : Sca Tryz.prog 165 := ⟨_, und165, rfl⟩
instance : Inf Tryz.prog 165 1 8 (.pointer none) := ⟨by kernel_rfl⟩
theorem und167 : Tryz.prog.underlying 167 = some (.pointer 5) := by kernel_rfl
instance : Und Tryz.prog 167 (.pointer 5) := ⟨und167⟩
instance : Sca Tryz.prog 167 := ⟨_, und167, rfl⟩
instance : Inf Tryz.prog 167 1 8 (.pointer none) := ⟨by kernel_rfl⟩
theorem und170 : Tryz.prog.underlying 170 = some (.pointer 161) := by kernel_rfl
instance : Und Tryz.prog 170 (.pointer 161) := ⟨und170⟩
instance : Sca Tryz.prog 170 := ⟨_, und170, rfl⟩
instance : Inf Tryz.prog 170 1 8 (.pointer none) := ⟨by kernel_rfl⟩
instance : Inf Tryz.prog 173 1 8 (.pointer none) := ⟨by kernel_rfl⟩
theorem und176 : Tryz.prog.underlying 176 = some (.array 256 5) := by kernel_rfl
instance : Und Tryz.prog 176 (.array 256 5) := ⟨und176⟩
instance : Agg Tryz.prog 176 := ⟨_, und176, rfl⟩
instance : Agg Tryz.prog 178 := ⟨_, Tryz.underlying178, rfl⟩
instance : Stru Tryz.prog 178 [(0, 1), (1, 1)] := ⟨_, Tryz.underlying178, by kernel_rfl⟩
instance : Fld Tryz.prog 178 0 0 5 := ⟨_, _, Tryz.underlying178, rfl, rfl, rfl⟩
instance : Fld Tryz.prog 178 1 1 5 := ⟨_, _, Tryz.underlying178, rfl, rfl, rfl⟩
instance : Inf Tryz.prog 178 2 2 (.agg #[.int .u8 0, .int .u8 0]) := ⟨by kernel_rfl⟩
theorem und179 : Tryz.prog.underlying 179 = some (.array 16 178) := by kernel_rfl
instance : Und Tryz.prog 179 (.array 16 178) := ⟨und179⟩
instance : Agg Tryz.prog 179 := ⟨_, und179, rfl⟩
instance : Inf Tryz.prog 179 32 32 (.agg #[.int .u8 0, .int .u8 0, .int .u8 0, .int .u8 0, .int .u8 0, .int .u8 0, .int .u8 0, .int .u8 0, .int .u8 0, .int .u8 0, .int .u8 0, .int .u8 0, .int .u8 0, .int .u8 0, .int .u8 0, .int .u8 0, .int .u8 0, .int .u8 0, .int .u8 0, .int .u8 0, .int .u8 0, .int .u8 0, .int .u8 0, .int .u8 0, .int .u8 0, .int .u8 0, .int .u8 0, .int .u8 0, .int .u8 0, .int .u8 0, .int .u8 0, .int .u8 0]) := ⟨by kernel_rfl⟩
instance : Agg Tryz.prog 185 := ⟨_, Tryz.underlying185, rfl⟩
instance : Stru Tryz.prog 185 [(0, 1), (1, 1), (2, 1), (3, 1)] := ⟨_, Tryz.underlying185, by kernel_rfl⟩
instance : Fld Tryz.prog 185 0 0 17 := ⟨_, _, Tryz.underlying185, rfl, rfl, rfl⟩
instance : Fld Tryz.prog 185 1 1 17 := ⟨_, _, Tryz.underlying185, rfl, rfl, rfl⟩
instance : Fld Tryz.prog 185 2 2 17 := ⟨_, _, Tryz.underlying185, rfl, rfl, rfl⟩
instance : Fld Tryz.prog 185 3 3 9 := ⟨_, _, Tryz.underlying185, rfl, rfl, rfl⟩
instance : Inf Tryz.prog 185 4 40 (.agg #[.pointer none, .pointer none, .pointer none, .string ByteArray.empty]) := ⟨by kernel_rfl⟩
theorem und186 : Tryz.prog.underlying 186 = some (.array 0 16) := by kernel_rfl
instance : Und Tryz.prog 186 (.array 0 16) := ⟨und186⟩
instance : Agg Tryz.prog 186 := ⟨_, und186, rfl⟩
instance : Inf Tryz.prog 186 0 0 (.agg #[]) := ⟨by kernel_rfl⟩
instance : Agg Tryz.prog 188 := ⟨_, Tryz.underlying188, rfl⟩
instance : Stru Tryz.prog 188 [(0, 0)] := ⟨_, Tryz.underlying188, by kernel_rfl⟩
instance : Fld Tryz.prog 188 0 0 186 := ⟨_, _, Tryz.underlying188, rfl, rfl, rfl⟩
instance : Inf Tryz.prog 188 0 0 (.agg #[]) := ⟨by kernel_rfl⟩
theorem und190 : Tryz.prog.underlying 190 = some (.int .u8) := by kernel_rfl
instance : Und Tryz.prog 190 (.int .u8) := ⟨und190⟩
instance : Sca Tryz.prog 190 := ⟨_, und190, rfl⟩
instance : Inf Tryz.prog 190 1 1 (.int .u8 0) := ⟨by kernel_rfl⟩
theorem und191 : Tryz.prog.underlying 191 = some (.int .u8) := by kernel_rfl
instance : Und Tryz.prog 191 (.int .u8) := ⟨und191⟩
instance : Sca Tryz.prog 191 := ⟨_, und191, rfl⟩
instance : Inf Tryz.prog 191 1 1 (.int .u8 0) := ⟨by kernel_rfl⟩
instance : Sca Tryz.prog 192 := ⟨_, Tryz.underlying192, rfl⟩
instance : Inf Tryz.prog 192 1 8 (.nilFunc) := ⟨by kernel_rfl⟩
theorem und193 : Tryz.prog.underlying 193 = some (.int .i32) := by kernel_rfl
instance : Und Tryz.prog 193 (.int .i32) := ⟨und193⟩
instance : Sca Tryz.prog 193 := ⟨_, und193, rfl⟩
instance : Inf Tryz.prog 193 1 4 (.int .i32 0) := ⟨by kernel_rfl⟩
theorem und194 : Tryz.prog.underlying 194 = some (.int .i32) := by kernel_rfl
instance : Und Tryz.prog 194 (.int .i32) := ⟨und194⟩
instance : Sca Tryz.prog 194 := ⟨_, und194, rfl⟩
instance : Inf Tryz.prog 194 1 4 (.int .i32 0) := ⟨by kernel_rfl⟩
instance : Agg Tryz.prog 196 := ⟨_, Tryz.underlying196, rfl⟩
instance : Stru Tryz.prog 196 [(0, 1), (1, 1), (2, 1), (3, 1), (4, 1), (5, 1), (6, 1), (7, 1), (8, 1), (9, 1), (10, 1)] := ⟨_, Tryz.underlying196, by kernel_rfl⟩
instance : Fld Tryz.prog 196 0 0 12 := ⟨_, _, Tryz.underlying196, rfl, rfl, rfl⟩
instance : Fld Tryz.prog 196 1 1 12 := ⟨_, _, Tryz.underlying196, rfl, rfl, rfl⟩
instance : Fld Tryz.prog 196 2 2 140 := ⟨_, _, Tryz.underlying196, rfl, rfl, rfl⟩
instance : Fld Tryz.prog 196 3 3 190 := ⟨_, _, Tryz.underlying196, rfl, rfl, rfl⟩
instance : Fld Tryz.prog 196 4 4 5 := ⟨_, _, Tryz.underlying196, rfl, rfl, rfl⟩
instance : Fld Tryz.prog 196 5 5 5 := ⟨_, _, Tryz.underlying196, rfl, rfl, rfl⟩
instance : Fld Tryz.prog 196 6 6 191 := ⟨_, _, Tryz.underlying196, rfl, rfl, rfl⟩
instance : Fld Tryz.prog 196 7 7 192 := ⟨_, _, Tryz.underlying196, rfl, rfl, rfl⟩
instance : Fld Tryz.prog 196 8 8 167 := ⟨_, _, Tryz.underlying196, rfl, rfl, rfl⟩
instance : Fld Tryz.prog 196 9 9 193 := ⟨_, _, Tryz.underlying196, rfl, rfl, rfl⟩
instance : Fld Tryz.prog 196 10 10 194 := ⟨_, _, Tryz.underlying196, rfl, rfl, rfl⟩
instance : Inf Tryz.prog 196 11 48 (.agg #[.int .u64 0, .int .u64 0, .int .u32 0, .int .u8 0, .int .u8 0, .int .u8 0, .int .u8 0, .nilFunc, .pointer none, .int .i32 0, .int .i32 0]) := ⟨by kernel_rfl⟩
theorem mixed : Tryz.prog.follows .mixedOrders = true := by kernel_rfl
end Go.Proofs.YtipljeomgdomnaaGreatDoor
/- KeysA -/
namespace Go.Proofs.YtipljeomgdomnaaGreatDoor
open Go

/-! the keys of a map -/
theorem keys_iter {m bx : Nat} {L : ML Int} {ck : Nat} (hw : WfM L ck) : Iter Tryz.prog 94 [.pointer (some ⟨bx, 0, none⟩)] [[(bx, cel [.map (some m)] 87)]] [[(m, mapO (Value.int .i64) L ck)]] (fun (x : Int × Value × Nat) => [.int .i64 x.1]) (fun pre x => x ∈ L ∧ x ∉ pre) (fun xs => xs.Perm L) := by
  refine ⟨enters Tryz.func94 (by kernel_rfl) rfl, fun l J Jx hJ hY h0 hJ0 => ?_⟩
  show FN _ _ _ ([(bx, cel [.map (some m)] 87)] :: h0) _
  obtain ⟨h2, hp2⟩ := hJ [] h0 hJ0
  refine FN.intro 14 [(0, .func (.yield l) #[] #[]), (1, .pointer (some ⟨bx, 0, none⟩))] Tryz.func94 rfl (enters Tryz.func94 (by kernel_rfl) rfl) Tryz.ntmps94 rfl rfl ?_
  refine WP.seq <| WP.region <| v0 (S0.load rfl rfl) rfl <| ?_  -- op t5 := range 87 t4
  refine WO.perm (h' := [(bx, cel [.map (some m)] 87)] :: [(m, mapO (Value.int .i64) L ck)] :: h2) (k := []) (by simpa using hp2) ?_
  refine vn (S1.range rfl) rfl fun b5 => ?_
  refine vE <| WP.block <| ?_  -- Code.loop
  refine WP.loop (fun s : ML Int × Hp => s.1.Nodup ∧ (∀ x ∈ s.1, x ∈ L) ∧ J s.1 s.2) (fun s : ML Int × Hp => [(0, .func (.yield l) #[] #[]), (1, .pointer (some ⟨bx, 0, none⟩)), (5, .pointer (some ⟨b5, 0, none⟩))]) (fun s : ML Int × Hp => [(b5, .mapIter (some m) ck ⟨s.1.map (·.2.2)⟩ ck)] :: [(bx, cel [.map (some m)] 87)] :: s.2) (fun s : ML Int × Hp => L.length - s.1.length) (([], h0)) (⟨by simp, by simp, hJ0⟩) ⟨rfl, rfl, rfl, trivial⟩ ⟨[], by simpa using hp2.symm⟩ (fun s hinv => ?_) 
  obtain ⟨xs, h⟩ := s
  obtain ⟨hn, hsub, hJs⟩ := hinv
  obtain ⟨h3, hp3⟩ := hJ xs h hJs
  dsimp only at *
  refine WP.seq <| WP.region <| ?_  -- op t6 := next t5 false
  refine WO.perm (h' := [(b5, .mapIter (some m) ck ⟨xs.map (·.2.2)⟩ ck)] :: [(bx, cel [.map (some m)] 87)] :: [(m, mapO (Value.int .i64) L ck)] :: h3) (k := []) (by simpa using hp3) ?_
  refine ve (S1.next hw rfl) rfl ?_
  rintro _ _ (⟨rfl, rfl, hall⟩ | ⟨y, hy, hyn, rfl, rfl⟩)
  skip
  · skip
    refine v0 (S0.extract rfl rfl) rfl <| vE <| WP.seq <| ?_  -- cond
    refine WP.condFh rfl (rfl) ?_
    refine WP.exit <| ?_  -- fnend
    refine Leaves.drop (h' := [(bx, cel [.map (some m)] 87)] :: h) (k := [[(b5, .mapIter (some m) ck ⟨xs.map (·.2.2)⟩ ck)]]) ?_ ?_
    · simp only [List.flatten_cons, List.flatten_nil, List.append_nil, List.cons_append, List.nil_append] at hp3 ⊢
      exact ((List.Perm.swap _ _ _).trans (((hp3.symm.cons _).trans (List.perm_append_singleton _ _).symm).cons _))
    refine r0 rfl ?_
    exact ⟨xs, h, rfl, .inl ⟨perm_of_all hw hn hsub hall, hJs⟩⟩
  · skip
    refine v0 (S0.extract rfl rfl) rfl <| vE <| WP.seq <| ?_  -- cond
    refine WP.condTh rfl (rfl) ?_
    refine WP.skip <| WP.block <| WP.seq <| WP.region <| ?_  -- op t8 := entry t5
    refine v0 (S0.entry (pre := xs.map (·.2.2)) hw hy (hi := by first | infer_instance | (simp; infer_instance)) rfl) rfl <| ?_
    refine v0 (S0.extract rfl rfl) rfl <| v0 (S0.assign rfl) rfl <| vE <| WP.seq <| WP.region <| v0 (S0.move rfl) rfl <| v0 (S0.move rfl) rfl <| ?_  -- op t12 := call t10(t11)
    refine ve (S1.yield (hr := [(b5, .mapIter (some m) ck ⟨xs.map (·.2.2) ++ [y.2.2]⟩ ck)] :: [(bx, cel [.map (some m)] 87)] :: []) rfl rfl (hY xs y h hJs ⟨hy, fun hm => hyn (List.mem_map.2 ⟨y, hm, rfl⟩)⟩) (by
        simp only [List.flatten_cons, List.flatten_nil, List.append_nil, List.cons_append, List.nil_append] at hp3 ⊢
        refine List.Perm.trans ?_ (List.perm_append_comm (l₁ := [_, _]))
        exact (hp3.symm.cons _).cons _)) rfl ?_
    rintro _ _ ⟨h4, ⟨bb, rfl, hpost⟩, rfl⟩
    refine v0 (S0.not rfl) rfl <| vE <| ?_  -- cond
    rcases hpost with ⟨rfl, hJ2⟩ | ⟨rfl, hJ2⟩
    skip
    · skip
      refine WP.condFh rfl (rfl) ?_
      refine WP.skip <| ?_  -- roundend
      have hnd : (xs ++ [y]).Nodup := List.nodup_append.2 ⟨hn, by simp, fun a ha b hb e => by simp at hb; subst hb; subst e; exact hyn (List.mem_map.2 ⟨_, ha, rfl⟩)⟩
      have hsb : ∀ x ∈ xs ++ [y], x ∈ L := fun x hx => (List.mem_append.1 hx).elim (hsub x) fun h => by simp at h; subst h; exact hy
      have hle : (xs ++ [y]).length ≤ L.length := hnd.length_le_of_subset hsb
      have hpm : (h4 ++ ([(b5, Obj.mapIter (some m) ck ⟨xs.map (·.2.2) ++ [y.2.2]⟩ ck)] :: [(bx, cel [.map (some m)] 87)] :: [] : Hp)).flatten.Perm (([(b5, Obj.mapIter (some m) ck ⟨(xs ++ [y]).map (·.2.2)⟩ ck)] :: [(bx, cel [.map (some m)] 87)] :: h4 : Hp).flatten ++ ([] : Hp).flatten) := by
        simp only [List.flatten_append, List.flatten_cons, List.flatten_nil, List.append_nil, List.cons_append, List.nil_append, List.map_append, List.map_cons, List.map_nil]
        exact List.perm_append_comm (l₂ := [_, _])
      exact ⟨(xs ++ [y], h4), (by first | exact ⟨hnd, hsb, hJ2⟩ | (dsimp only; exact ⟨hnd, hsb, hJ2⟩)), (by simp at hle ⊢; omega), ⟨⟨rfl, rfl, rfl, trivial⟩, rfl, rfl⟩, ⟨[], hpm⟩⟩
    · skip
      refine WP.condTh rfl (rfl) ?_
      refine WP.ret <| ?_  -- ret
      refine Leaves.drop (h' := [(bx, cel [.map (some m)] 87)] :: h4) (k := [[(b5, .mapIter (some m) ck ⟨xs.map (·.2.2) ++ [y.2.2]⟩ ck)]]) ?_ ?_
      · simp only [List.flatten_append, List.flatten_cons, List.flatten_nil, List.append_nil, List.cons_append, List.nil_append]
        refine (List.perm_append_comm (l₂ := [_, _])).trans ?_
        exact (List.Perm.swap _ _ _).trans ((List.perm_append_singleton _ _).symm.cons _)
      refine r0 rfl ?_
      exact ⟨xs ++ [y], h4, rfl, .inr hJ2⟩

theorem keys_spec (m : Nat) : FN Tryz.prog 64 [.map (some m)] [] (fun v h => ∃ bx, v = .func (.func 94) ⟨[]⟩ ⟨[.pointer (some ⟨bx, 0, none⟩)]⟩ ∧ h = [[(bx, cel [.map (some m)] 87)]]) := by
  refine FN.intro 4 [(0, .map (some m))] Tryz.func64 rfl (enters Tryz.func64 (by kernel_rfl) rfl) Tryz.ntmps64 rfl rfl ?_
  refine WP.seq <| WP.region <| vn (S1.box rfl rfl) rfl fun b1 => v0 (S0.assign rfl) rfl <| vE <| WP.seq <| WP.region <| v0 (S0.makeFunc rfl rfl) rfl <| v0 (S0.assign rfl) rfl <| vE <| WP.ret <| ?_  -- ret
  refine r1 rfl rfl ?_
  exact ⟨_, rfl, rfl⟩
end Go.Proofs.YtipljeomgdomnaaGreatDoor
/- Top0 -/
/-
  Topics and filters: the plain model.
-/
namespace Go.Proofs.YtipljeomgdomnaaGreatDoor
open Go

abbrev strs (l : List Str) : List Value := l.map sv
theorem strs_flat (l : List Str) : strs l = l.flatMap fun x => [sv x] := by
  induction l with
  | nil => rfl
  | cons x l ih => rw [List.flatMap_cons, ← ih]; rfl
theorem IsSl.strsE {E : TypeId} {R : List Str} {v : Value} {row : List Blk} (h : IsSl E 1 v (strs R) row) :
    ∃ a cap, v = .slice a R.length cap ∧ R.length ≤ cap ∧ ((R = [] ∧ row = [] ∧ a = none ∧ cap = 0) ∨ ∃ b sp, a = some ⟨b, 0, none⟩ ∧ row = [(b, .cells ⟨strs R ++ sp⟩ E (0, 0))] ∧ (strs R ++ sp).length = cap) := by
  rw [strs_flat] at h
  obtain ⟨a, cap, e, hc, hr⟩ := IsSl.elems (k := 0) (fun _ => rfl) h
  refine ⟨a, cap, e, hc, hr.imp id ?_⟩
  rintro ⟨b, sp, e1, e2, e3⟩
  exact ⟨b, sp, e1, by rw [strs_flat]; exact e2, by rw [strs_flat]; omega⟩
theorem strs_get {l : List Str} {sp : List Value} {i : Nat} {x : Str} (h : l[i]? = some x) : (strs l ++ sp)[i]? = some (sv x) := by
  have hlt : i < l.length := (List.getElem?_eq_some_iff.1 h).1
  rw [List.getElem?_append_left (by simpa using hlt)]
  simp [h]
theorem strs_len (l : List Str) : (strs l).length = l.length := by simp [strs]

/-- the levels of a text -/
def levels : Str → List Str
  | [] => [[]]
  | c :: s => if c = 47 then [] :: levels s else
    match levels s with
    | [] => [[c]]
    | l :: ls => (c :: l) :: ls
theorem levels_ne (s : Str) : levels s ≠ [] := by
  cases s with
  | nil => simp [levels]
  | cons c s => simp only [levels]; split; · simp
                split <;> simp
theorem levels_none : ∀ {a : Str}, (47 : UInt8) ∉ a → levels a = [a]
  | [], _ => rfl
  | c :: a, h => by
    have h1 : c ≠ 47 := fun e => h (by simp [e])
    have h2 : (47 : UInt8) ∉ a := fun hm => h (List.mem_cons_of_mem _ hm)
    simp only [levels, if_neg h1, levels_none h2]
theorem levels_cut : ∀ {a : Str} (b : Str), (47 : UInt8) ∉ a → levels (a ++ 47 :: b) = a :: levels b
  | [], b, _ => by simp [levels]
  | c :: a, b, h => by
    have h1 : c ≠ 47 := fun e => h (by simp [e])
    have h2 : (47 : UInt8) ∉ a := fun hm => h (List.mem_cons_of_mem _ hm)
    simp only [List.cons_append, levels, if_neg h1, levels_cut b h2]
theorem levels_len : ∀ (s : Str), (levels s).length ≤ s.length + 1
  | [] => by simp [levels]
  | c :: s => by
    have := levels_len s
    simp only [levels]
    split
    · simp; omega
    · split
      · simp
      · rename_i h; rw [h] at this; simp at this ⊢; omega

/-- a letter of a name -/
def okN (n : Int) : Bool := (decide (97 ≤ n) && decide (n ≤ 122)) || (decide (48 ≤ n) && decide (n ≤ 57)) || decide (n = 45) || decide (n = 95)
def nameS (s : Str) : Bool := s.all (fun c => okN c.toNat) && decide (s ≠ []) && decide (s.length ≤ 16)
def rightS (s : Str) : Bool := decide ((levels s).length ≤ 8) && (levels s).all nameS
/-- may levels be a filter's? -/
def filtL : List Str → Bool
  | [] => true
  | [x] => nameS x || decide (x = [43]) || decide (x = [35])
  | x :: xs => (nameS x || decide (x = [43])) && filtL xs
def filtS (s : Str) : Bool := decide ((levels s).length ≤ 8) && filtL (levels s)
/-- do levels let others by? -/
def matchL : List Str → List Str → Bool
  | [], [] => true
  | [], _ :: _ => false
  | x :: f, t => decide (x = [35]) || (match t with
    | [] => false
    | y :: t => (decide (x = [43]) || decide (x = y)) && matchL f t)
def matchS (f t : Str) : Bool := filtS f && rightS t && matchL (levels f) (levels t)

theorem okN_ge {n : Int} (h : 128 ≤ n) : okN n = false := by
  simp only [okN, Bool.or_eq_false_iff, Bool.and_eq_false_iff, decide_eq_false_iff_not]
  omega
theorem not_name_rest : nameS [35] = false := by decide
theorem not_name_one : nameS [43] = false := by decide

/-- a place in levels of which a filter's may not be -/
def badAt (l : List Str) (i : Nat) (x : Str) : Bool := !nameS x && (!decide (x = [43]) && (!decide (x = [35]) || !decide (i + 1 = l.length)))
theorem badAt_succ (x : Str) (l : List Str) (i : Nat) (z : Str) : badAt (x :: l) (i + 1) z = badAt l i z := by simp [badAt]
theorem filtL_iff : ∀ (l : List Str), filtL l = true ↔ ∀ i x, l[i]? = some x → badAt l i x = false
  | [] => by simp [filtL]
  | [x] => by
    simp only [filtL]
    constructor
    · intro h i y hy
      cases i with
      | zero =>
        simp at hy; subst hy
        simp only [badAt]
        cases h1 : nameS x <;> cases h2 : decide (x = [43]) <;> cases h3 : decide (x = [35]) <;> simp_all
      | succ i => simp at hy
    · intro h
      have := h 0 x rfl
      simp only [badAt] at this
      cases h1 : nameS x <;> cases h2 : decide (x = [43]) <;> cases h3 : decide (x = [35]) <;> simp_all
  | x :: y :: l => by
    simp only [filtL, Bool.and_eq_true]
    rw [filtL_iff (y :: l)]
    constructor
    · rintro ⟨h1, h2⟩ i z hz
      cases i with
      | zero =>
        simp at hz; subst hz
        simp only [badAt]
        cases h1' : nameS x <;> cases h2' : decide (x = [43]) <;> simp_all
      | succ i =>
        rw [badAt_succ]
        exact h2 i z (by simpa using hz)
    · intro h
      constructor
      · have := h 0 x rfl
        simp only [badAt, List.length_cons] at this
        cases h1' : nameS x <;> cases h2' : decide (x = [43]) <;> simp_all
      · intro i z hz
        have := h (i + 1) z (by simpa using hz)
        rwa [badAt_succ] at this
/-- '#' stands last -/
theorem filtL_rest {l : List Str} (h : filtL l = true) {i : Nat} (hi : l[i]? = some [35]) : i + 1 = l.length := by
  have := (filtL_iff l).1 h i _ hi
  simp only [badAt, not_name_rest] at this
  simpa using this

/-! the row of a filter -/
def rowL (l : List Str) (n : Nat) : List Str × Bool :=
  match l.getLast? with
  | some x => if x = [35] then (l.take (l.length - 1) ++ List.replicate (n - (l.length - 1)) [43], decide (l.length - 1 ≤ n)) else (l, decide (l.length = n))
  | none => (l, false)
def rowOk : List Str → List Str → Bool
  | x :: f, y :: t => (decide (x = [43]) || decide (x = y)) && rowOk f t
  | _, _ => true
theorem rowOk_rep : ∀ (n : Nat) (t : List Str), rowOk (List.replicate n [43]) t = true
  | 0, t => by simp [rowOk]
  | n + 1, [] => by simp [List.replicate_succ, rowOk]
  | n + 1, y :: t => by simp [List.replicate_succ, rowOk, rowOk_rep n t]
theorem matchL_row : ∀ (l t : List Str), filtL l = true → l ≠ [] → matchL l t = ((rowL l t.length).2 && rowOk (rowL l t.length).1 t)
  | [], t, _, h => absurd rfl h
  | [x], t, hf, _ => by
    unfold rowL
    simp only [List.getLast?_singleton, List.length_singleton]
    by_cases hx : x = [35]
    · subst hx
      simp [matchL, rowOk_rep]
    · cases t with
      | nil => simp [matchL, hx]
      | cons y t =>
        cases t with
        | nil => simp [matchL, hx, rowOk]
        | cons z t => simp [matchL, hx]
  | x :: y :: l, t, hf, _ => by
    have hf' : filtL (y :: l) = true := by simp only [filtL, Bool.and_eq_true] at hf; exact hf.2
    have hx : x ≠ [35] := fun e => by
      have := filtL_rest hf (i := 0) (by simp [e])
      simp at this
    cases t with
    | nil =>
      simp only [matchL, hx, decide_false, Bool.false_or]
      have : (rowL (x :: y :: l) 0).2 = false := by
        unfold rowL
        rw [List.getLast?_cons_cons]
        split
        · split <;> simp
        · rfl
      simp [this]
    | cons z t =>
      have ih := matchL_row (y :: l) t hf' (by simp)
      show (decide (x = [35]) || ((decide (x = [43]) || decide (x = z)) && matchL (y :: l) t)) = _
      rw [ih, decide_eq_false hx, Bool.false_or]
      have e : rowL (x :: y :: l) (z :: t).length = (x :: (rowL (y :: l) t.length).1, (rowL (y :: l) t.length).2) := by
        unfold rowL
        rw [List.getLast?_cons_cons]
        split
        · split
          · simp only [List.length_cons, Nat.add_sub_cancel, Prod.mk.injEq]
            refine ⟨?_, ?_⟩
            · rw [show l.length + 1 = (l.length) + 1 from rfl, List.take_succ_cons, List.cons_append]
              congr 2
              rw [show t.length + 1 - (l.length + 1) = t.length - l.length from by omega]
            · rw [decide_eq_decide]; omega
          · simp
        · simp
      rw [e]
      simp only [rowOk]
      cases (rowL (y :: l) t.length).2 <;> simp
theorem rowL_len {l : List Str} {n : Nat} (h : (rowL l n).2 = true) : (rowL l n).1.length = n := by
  unfold rowL at h ⊢
  split at h <;> rename_i hx
  · split at h
    · rename_i hx2
      simp only [hx2, if_true, decide_eq_true_eq] at h ⊢
      simp; omega
    · rename_i hx2
      simp only [hx2, if_false, decide_eq_true_eq] at h ⊢
      exact h
  · cases h
end Go.Proofs.YtipljeomgdomnaaGreatDoor
/- T0 -/
/-
  The tree of levels as it lies in the heap, plainly.
-/
namespace Go.Proofs.YtipljeomgdomnaaGreatDoor
open Go

/-- who asks, and how often; when the entry was made -/
abbrev AL := List (Int × Int × Nat)
def aml (A : AL) : ML Int := A.map fun x => (x.1, Value.int .i64 x.2.1, x.2.2)
def getA : AL → Int → Int
  | [], _ => 0
  | (k, n, _) :: r, i => if i = k then n else getA r i
mutual
/-- a node: its block, its two maps' blocks and clocks, who asks here, its children -/
inductive HT where
  | nd (b mk ma ck ca : Nat) (A : AL) (K : HF)
inductive HF where
  | nil
  | cons (k : Str) (born : Nat) (t : HT) (r : HF)
end
def HT.b : HT → Nat | .nd b _ _ _ _ _ _ => b
def HT.ptr (t : HT) : Value := .pointer (some ⟨t.b, 0, none⟩)
def HF.ml : HF → ML Str
  | .nil => []
  | .cons k bn t r => (k, t.ptr, bn) :: r.ml
def HF.get : HF → Str → Option HT
  | .nil, _ => none
  | .cons k _ t r, x => if x = k then some t else r.get x
def HF.set : HF → Str → HT → HF
  | .nil, _, _ => .nil
  | .cons k bn t r, x, u => if x = k then .cons k bn u r else .cons k bn t (r.set x u)
def HF.push : HF → Str → Nat → HT → HF
  | .nil, x, n, u => .cons x n u .nil
  | .cons k bn t r, x, n, u => .cons k bn t (r.push x n u)
def HF.del : HF → Str → HF
  | .nil, _ => .nil
  | .cons k bn t r, x => if x = k then r else .cons k bn t (r.del x)
mutual
def HT.blks (T : TypeId) : HT → List Blk
  | .nd b mk ma ck ca A K => (b, .cells ⟨[.map (some mk), .map (some ma)]⟩ T (0, 0)) :: (mk, mapO sv K.ml ck) :: (ma, mapO (Value.int .i64) (aml A) ca) :: K.blks T
def HF.blks (T : TypeId) : HF → List Blk
  | .nil => []
  | .cons _ _ t r => t.blks T ++ r.blks T
end
mutual
/-- how often is asked, at a path below -/
def HT.cnt : HT → List Str → Int → Int
  | .nd _ _ _ _ _ A _, [], i => getA A i
  | .nd _ _ _ _ _ _ K, x :: p, i => K.cnt x p i
def HF.cnt : HF → Str → List Str → Int → Int
  | .nil, _, _, _ => 0
  | .cons k _ t r, x, p, i => if x = k then t.cnt p i else r.cnt x p i
end
mutual
def HT.wf : HT → Prop
  | .nd _ _ _ ck ca A K => WfM K.ml ck ∧ WfM (aml A) ca ∧ (∀ x ∈ A, 0 < x.2.1) ∧ K.wf
def HF.wf : HF → Prop
  | .nil => True
  | .cons _ _ t r => t.wf ∧ r.wf
end
theorem HF.get_ml : ∀ (K : HF) (x : Str), getM K.ml x = (K.get x).map HT.ptr
  | .nil, _ => rfl
  | .cons k bn t r, x => by
    simp only [HF.ml, getM, HF.get]
    by_cases h : x = k
    · simp [h]
    · simp [h, HF.get_ml r x]
theorem HF.set_ml : ∀ (K : HF) (x : Str) (u t : HT), K.get x = some t → u.b = t.b → (K.set x u).ml = K.ml
  | .nil, _, _, _, h, _ => by cases h
  | .cons k bn t r, x, u, t', h, hb => by
    simp only [HF.get] at h
    simp only [HF.set]
    split
    · rename_i e
      rw [if_pos e] at h
      cases h
      simp [HF.ml, HT.ptr, hb]
    · rename_i e
      rw [if_neg e] at h
      simp [HF.ml, HF.set_ml r x u t' h hb]
theorem HF.push_ml : ∀ (K : HF) (x : Str) (n : Nat) (u : HT), (K.push x n u).ml = K.ml ++ [(x, u.ptr, n)]
  | .nil, _, _, _ => rfl
  | .cons k bn t r, x, n, u => by simp [HF.push, HF.ml, HF.push_ml r x n u]
theorem HF.del_ml : ∀ (K : HF) (x : Str), (K.del x).ml = delM K.ml x
  | .nil, _ => rfl
  | .cons k bn t r, x => by
    simp only [HF.del, HF.ml, delM]
    by_cases h : x = k
    · simp [h]
    · simp [h, HF.ml, HF.del_ml r x]
/-- the blocks of the other children -/
theorem HF.split (T : TypeId) : ∀ (K : HF) (x : Str) (t : HT), K.get x = some t → ∃ C, (K.blks T).Perm (t.blks T ++ C) ∧ ((K.del x).blks T).Perm C ∧ ∀ u, ((K.set x u).blks T).Perm (u.blks T ++ C)
  | .nil, _, _, h => by cases h
  | .cons k bn t r, x, t', h => by
    simp only [HF.get] at h
    by_cases e : x = k
    · rw [if_pos e] at h
      cases h
      exact ⟨r.blks T, by simp [HF.blks], by simp [HF.del, e], fun u => by simp [HF.set, e, HF.blks]⟩
    · rw [if_neg e] at h
      obtain ⟨C, h1, h2, h3⟩ := HF.split T r x t' h
      refine ⟨t.blks T ++ C, ?_, ?_, fun u => ?_⟩
      · simp only [HF.blks]
        refine (List.Perm.append_left _ h1).trans ?_
        rw [← List.append_assoc, ← List.append_assoc]
        exact List.Perm.append_right _ List.perm_append_comm
      · simp only [HF.del, if_neg e, HF.blks]
        exact List.Perm.append_left _ h2
      · simp only [HF.set, if_neg e, HF.blks]
        refine (List.Perm.append_left _ (h3 u)).trans ?_
        rw [← List.append_assoc, ← List.append_assoc]
        exact List.Perm.append_right _ List.perm_append_comm
theorem HF.push_blks (T : TypeId) : ∀ (K : HF) (x : Str) (n : Nat) (u : HT), (K.push x n u).blks T = K.blks T ++ u.blks T
  | .nil, _, _, _ => by simp [HF.push, HF.blks]
  | .cons k bn t r, x, n, u => by simp [HF.push, HF.blks, HF.push_blks T r x n u]
theorem HF.cnt_get : ∀ (K : HF) (x : Str) (p : List Str) (i : Int), K.cnt x p i = match K.get x with | some t => t.cnt p i | none => 0
  | .nil, _, _, _ => by simp [HF.cnt, HF.get]
  | .cons k bn t r, x, p, i => by
    simp only [HF.cnt, HF.get]
    by_cases h : x = k
    · simp [h]
    · simp [h, HF.cnt_get r x p i]
theorem HF.cnt_set : ∀ (K : HF) (x y : Str) (u : HT) (p : List Str) (i : Int), K.get x ≠ none → (K.set x u).cnt y p i = if y = x then u.cnt p i else K.cnt y p i
  | .nil, _, _, _, _, _, h => absurd rfl h
  | .cons k bn t r, x, y, u, p, i, h => by
    simp only [HF.get] at h
    simp only [HF.set]
    by_cases e : x = k
    · subst e
      simp only [if_true, HF.cnt]
      by_cases e2 : y = x <;> simp [e2]
    · rw [if_neg e] at h
      simp only [if_neg e, HF.cnt, HF.cnt_set r x y u p i h]
      by_cases e2 : y = k
      · have : y ≠ x := fun e3 => e (e3 ▸ e2)
        simp [e2]; intro e3; exact absurd e3.symm e
      · simp [e2]
theorem HF.cnt_push : ∀ (K : HF) (x y : Str) (n : Nat) (u : HT) (p : List Str) (i : Int), K.get x = none → (K.push x n u).cnt y p i = if y = x then u.cnt p i else K.cnt y p i
  | .nil, x, y, n, u, p, i, _ => by simp [HF.push, HF.cnt]
  | .cons k bn t r, x, y, n, u, p, i, h => by
    simp only [HF.get] at h
    have e : x ≠ k := fun e => by rw [if_pos e] at h; cases h
    rw [if_neg e] at h
    simp only [HF.push, HF.cnt, HF.cnt_push r x y n u p i h]
    by_cases e2 : y = k
    · simp [e2]; intro e3; exact absurd e3.symm e
    · simp [e2]
end Go.Proofs.YtipljeomgdomnaaGreatDoor
/- T1 -/
/-
  Paths in the tree: what lies there, what is put there.
-/
namespace Go.Proofs.YtipljeomgdomnaaGreatDoor
open Go

/-- what lies at a path -/
def HT.sub : List Str → HT → Option HT
  | [], t => some t
  | x :: p, .nd _ _ _ _ _ _ K => match K.get x with
    | some u => HT.sub p u
    | none => none
/-- another one put there -/
def HT.put : List Str → HT → HT → HT
  | [], _, u => u
  | x :: p, .nd b mk ma ck ca A K, u => match K.get x with
    | some s => .nd b mk ma ck ca A (K.set x (HT.put p s u))
    | none => .nd b mk ma ck ca A K
theorem HT.cnt_sub : ∀ (p q : List Str) (t : HT) (i : Int), t.cnt (p ++ q) i = match HT.sub p t with | some s => s.cnt q i | none => 0
  | [], q, t, i => rfl
  | x :: p, q, .nd b mk ma ck ca A K, i => by
    simp only [List.cons_append, HT.cnt, HT.sub, HF.cnt_get]
    cases h : K.get x with
    | none => rfl
    | some u => exact HT.cnt_sub p q u i
theorem HF.get_mem (T : TypeId) : ∀ {K : HF} {x : Str} {t : HT}, K.get x = some t → ∀ z ∈ t.blks T, z ∈ K.blks T
  | .nil, _, _, h => by cases h
  | .cons k bn t r, x, t', h => by
    simp only [HF.get] at h
    intro z hz
    simp only [HF.blks, List.mem_append]
    split at h
    · cases h; exact .inl hz
    · exact .inr (HF.get_mem T h z hz)
theorem HT.sub_mem (T : TypeId) : ∀ {p : List Str} {t s : HT}, HT.sub p t = some s → ∀ z ∈ s.blks T, z ∈ t.blks T
  | [], t, s, h => by cases h; exact fun z hz => hz
  | x :: p, .nd b mk ma ck ca A K, s, h => by
    simp only [HT.sub] at h
    cases hg : K.get x with
    | none => rw [hg] at h; cases h
    | some u =>
      rw [hg] at h
      intro z hz
      have := HF.get_mem T hg z (HT.sub_mem T h z hz)
      simp only [HT.blks, List.mem_cons]
      exact .inr (.inr (.inr this))
theorem HF.get_wf : ∀ {K : HF} {x : Str} {t : HT}, K.get x = some t → K.wf → t.wf
  | .nil, _, _, h, _ => by cases h
  | .cons k bn t r, x, t', h, hw => by
    simp only [HF.get] at h
    simp only [HF.wf] at hw
    split at h
    · cases h; exact hw.1
    · exact HF.get_wf h hw.2
theorem HT.sub_wf : ∀ {p : List Str} {t s : HT}, HT.sub p t = some s → t.wf → s.wf
  | [], t, s, h, hw => by cases h; exact hw
  | x :: p, .nd b mk ma ck ca A K, s, h, hw => by
    simp only [HT.sub] at h
    simp only [HT.wf] at hw
    cases hg : K.get x with
    | none => rw [hg] at h; cases h
    | some u => rw [hg] at h; exact HT.sub_wf h (HF.get_wf hg hw.2.2.2)
theorem HT.sub_app : ∀ (p q : List Str) (t : HT), HT.sub (p ++ q) t = (HT.sub p t).bind (HT.sub q)
  | [], q, t => rfl
  | x :: p, q, .nd b mk ma ck ca A K => by
    simp only [List.cons_append, HT.sub]
    cases h : K.get x with
    | none => rfl
    | some u => exact HT.sub_app p q u
theorem HT.put_b : ∀ {p : List Str} {t s u : HT}, HT.sub p t = some s → u.b = s.b → (HT.put p t u).b = t.b
  | [], t, s, u, h, e => by cases h; exact e
  | x :: p, .nd b mk ma ck ca A K, s, u, h, e => by
    simp only [HT.put]
    cases hg : K.get x <;> rfl
theorem HF.set_wf : ∀ {K : HF} {x : Str} {u : HT}, K.wf → u.wf → (K.set x u).wf
  | .nil, _, _, _, _ => trivial
  | .cons k bn t r, x, u, hw, hu => by
    simp only [HF.wf] at hw
    simp only [HF.set]
    split
    · exact ⟨hu, hw.2⟩
    · exact ⟨hw.1, HF.set_wf hw.2 hu⟩
theorem HF.push_wf : ∀ {K : HF} {x : Str} {n : Nat} {u : HT}, K.wf → u.wf → (K.push x n u).wf
  | .nil, _, _, _, _, hu => ⟨hu, trivial⟩
  | .cons k bn t r, x, n, u, hw, hu => ⟨hw.1, HF.push_wf hw.2 hu⟩
theorem HF.del_wf : ∀ {K : HF} {x : Str}, K.wf → (K.del x).wf
  | .nil, _, _ => trivial
  | .cons k bn t r, x, hw => by
    simp only [HF.del]
    split
    · exact hw.2
    · exact ⟨hw.1, HF.del_wf hw.2⟩
theorem HT.put_wf : ∀ {p : List Str} {t s u : HT}, HT.sub p t = some s → u.b = s.b → t.wf → u.wf → (HT.put p t u).wf
  | [], t, s, u, h, e, _, hu => hu
  | x :: p, .nd b mk ma ck ca A K, s, u, h, e, hw, hu => by
    simp only [HT.sub] at h
    simp only [HT.put]
    cases hg : K.get x with
    | none => rw [hg] at h; cases h
    | some w =>
      rw [hg] at h
      simp only [HT.wf] at hw ⊢
      refine ⟨?_, hw.2.1, hw.2.2.1, HF.set_wf hw.2.2.2 (HT.put_wf h e (HF.get_wf hg hw.2.2.2) hu)⟩
      rw [HF.set_ml K x _ w hg (HT.put_b h e)]
      exact hw.1
/-- the blocks that are no part of what lies at a path -/
theorem HT.split (T : TypeId) : ∀ {p : List Str} {t s : HT}, HT.sub p t = some s → ∃ C, (t.blks T).Perm (s.blks T ++ C) ∧ ∀ u : HT, u.b = s.b → ((HT.put p t u).blks T).Perm (u.blks T ++ C)
  | [], t, s, h => by cases h; exact ⟨[], by simp, fun u _ => by simp [HT.put]⟩
  | x :: p, .nd b mk ma ck ca A K, s, h => by
    simp only [HT.sub] at h
    cases hg : K.get x with
    | none => rw [hg] at h; cases h
    | some w =>
      rw [hg] at h
      obtain ⟨C1, c1, -, c3⟩ := HF.split T K x w hg
      obtain ⟨C2, d1, d2⟩ := HT.split T h
      refine ⟨(b, .cells ⟨[.map (some mk), .map (some ma)]⟩ T (0, 0)) :: (mk, mapO sv K.ml ck) :: (ma, mapO (Value.int .i64) (aml A) ca) :: (C2 ++ C1), ?_, fun u hu => ?_⟩
      · simp only [HT.blks]
        refine List.Perm.trans ?_ List.perm_append_comm
        simp only [List.cons_append]
        refine List.Perm.cons _ (List.Perm.cons _ (List.Perm.cons _ ?_))
        refine c1.trans ((d1.append_right C1).trans ?_)
        rw [List.append_assoc]
        exact List.perm_append_comm
      · simp only [HT.put, hg, HT.blks, HF.set_ml K x _ w hg (HT.put_b h hu)]
        refine List.Perm.trans ?_ List.perm_append_comm
        simp only [List.cons_append]
        refine List.Perm.cons _ (List.Perm.cons _ (List.Perm.cons _ ?_))
        refine (c3 _).trans (((d2 u hu).append_right C1).trans ?_)
        rw [List.append_assoc]
        exact List.perm_append_comm
theorem HT.put_sub : ∀ {p : List Str} {t s : HT} (u : HT), HT.sub p t = some s → HT.sub p (HT.put p t u) = some u
  | [], t, s, u, h => rfl
  | x :: p, .nd b mk ma ck ca A K, s, u, h => by
    simp only [HT.sub] at h
    simp only [HT.put]
    cases hg : K.get x with
    | none => rw [hg] at h; cases h
    | some w =>
      rw [hg] at h
      have : ∀ (K : HF) (v : HT), K.get x = some w → (K.set x v).get x = some v := by
        intro K v
        induction K using HF.rec (motive_1 := fun _ => True) with
        | nd => trivial
        | nil => intro h; cases h
        | cons k bn t r _ ih =>
          intro h
          simp only [HF.get] at h
          simp only [HF.set]
          by_cases e : x = k
          · rw [if_pos e]; simp [HF.get, e]
          · rw [if_neg e] at h ⊢; simp [HF.get, e, ih h]
      simp only [HT.sub, this K _ hg]
      exact HT.put_sub u h
/-- the rest of a path behind another one -/
def stripP : List Str → List Str → Option (List Str)
  | [], q => some q
  | _ :: _, [] => none
  | x :: p, y :: q => if y = x then stripP p q else none
theorem HT.put_cnt : ∀ {p : List Str} {t s u : HT} (q : List Str) (i : Int), HT.sub p t = some s → (HT.put p t u).cnt q i = match stripP p q with | some r => u.cnt r i | none => t.cnt q i
  | [], t, s, u, q, i, h => rfl
  | x :: p, .nd b mk ma ck ca A K, s, u, q, i, h => by
    simp only [HT.sub] at h
    simp only [HT.put]
    cases hg : K.get x with
    | none => rw [hg] at h; cases h
    | some w =>
      rw [hg] at h
      cases q with
      | nil => simp [HT.cnt, stripP]
      | cons y q =>
        simp only [HT.cnt, stripP]
        rw [HF.cnt_set K x y _ q i (by rw [hg]; simp)]
        by_cases e : y = x
        · subst e
          simp only [if_true]
          rw [HT.put_cnt q i h]
          cases stripP p q with
          | some r => rfl
          | none => simp only [HF.cnt_get, hg]
        · simp [e]
theorem stripP_self (p q : List Str) : stripP p (p ++ q) = some q := by
  induction p with
  | nil => rfl
  | cons x p ih => simp [stripP, ih]
theorem stripP_some : ∀ {p q r : List Str}, stripP p q = some r → q = p ++ r
  | [], q, r, h => by cases h; rfl
  | x :: p, [], r, h => by cases h
  | x :: p, y :: q, r, h => by
    simp only [stripP] at h
    split at h
    · rename_i e; subst e; rw [stripP_some h]; rfl
    · cases h
/-- nothing but the counts at the path turns, where the rest below is alike -/
theorem HT.put_same {p : List Str} {t s u : HT} (h : HT.sub p t = some s) (q : List Str) (i : Int) (hu : ∀ r i, r ≠ [] → u.cnt r i = s.cnt r i) : (HT.put p t u).cnt q i = if q = p then u.cnt [] i else t.cnt q i := by
  rw [HT.put_cnt q i h]
  cases hs : stripP p q with
  | none =>
    have : q ≠ p := fun e => by subst e; have := stripP_self q []; rw [List.append_nil, hs] at this; cases this
    simp [this]
  | some r =>
    have e := stripP_some hs
    subst e
    have h2 := HT.cnt_sub p r t i
    rw [h] at h2
    by_cases hr : r = []
    · subst hr; simp
    · have : p ++ r ≠ p := fun e => hr (by simpa using e)
      simp only [this, if_false]
      rw [h2]
      exact hu r i hr
end Go.Proofs.YtipljeomgdomnaaGreatDoor
/- Cov0 -/
/-
  The order of filters, and what covers what: the plain model.
-/
namespace Go.Proofs.YtipljeomgdomnaaGreatDoor
open Go

/-! the order of texts -/
theorem ltS_irr : ∀ (x : Str), ltS x x = false
  | [] => rfl
  | a :: x => by simp [ltS, ltS_irr x]
theorem ltS_tri : ∀ {x y : Str}, ltS x y = false → ltS y x = false → x = y
  | [], [], _, _ => rfl
  | [], _ :: _, h, _ => by simp [ltS] at h
  | _ :: _, [], _, h => by simp [ltS] at h
  | a :: x, b :: y, h1, h2 => by
    simp only [ltS, Bool.or_eq_false_iff, decide_eq_false_iff_not, Bool.and_eq_false_iff] at h1 h2
    have e : a = b := by
      have h3 : ¬ a.toNat < b.toNat := fun h => h1.1 (UInt8.lt_iff_toNat_lt.2 h)
      have h4 : ¬ b.toNat < a.toNat := fun h => h2.1 (UInt8.lt_iff_toNat_lt.2 h)
      exact UInt8.toNat_inj.1 (by omega)
    subst e
    have h3 : ltS x y = false := h1.2.resolve_left (fun h => h rfl)
    have h4 : ltS y x = false := h2.2.resolve_left (fun h => h rfl)
    rw [ltS_tri h3 h4]
theorem ltS_trans : ∀ {x y z : Str}, ltS x y = true → ltS y z = true → ltS x z = true
  | _, [], _, h, _ => by cases ‹Str› <;> simp [ltS] at h
  | _, _ :: _, [], _, h => by simp [ltS] at h
  | [], _ :: _, _ :: _, _, _ => by simp [ltS]
  | a :: x, b :: y, c :: z, h1, h2 => by
    simp only [ltS, Bool.or_eq_true, decide_eq_true_eq, Bool.and_eq_true] at h1 h2 ⊢
    rcases h1 with h1 | ⟨rfl, h1⟩
    · rcases h2 with h2 | ⟨rfl, h2⟩
      · exact .inl (UInt8.lt_trans h1 h2)
      · exact .inl h1
    · rcases h2 with h2 | ⟨rfl, h2⟩
      · exact .inl h2
      · exact .inr ⟨rfl, ltS_trans h1 h2⟩
theorem ltS_asym {x y : Str} (h : ltS x y = true) : ltS y x = false := by
  cases h2 : ltS y x with
  | false => rfl
  | true => have := ltS_trans h h2; rw [ltS_irr] at this; cases this

def cmpT (x y : Str) : Int := if ltS x y = true then -1 else if x = y then 0 else 1
/-- rows of texts: which one is ahead -/
def ltL : List Str → List Str → Bool
  | _, [] => false
  | [], _ :: _ => true
  | x :: a, y :: b => ltS x y || (decide (x = y) && ltL a b)
def cmpL : List Str → List Str → Int
  | [], [] => 0
  | [], _ :: _ => -1
  | _ :: _, [] => 1
  | x :: a, y :: b => if cmpT x y ≠ 0 then cmpT x y else cmpL a b
theorem ltL_irr : ∀ (x : List Str), ltL x x = false
  | [] => rfl
  | a :: x => by simp [ltL, ltS_irr, ltL_irr x]
theorem ltL_tri : ∀ {x y : List Str}, ltL x y = false → ltL y x = false → x = y
  | [], [], _, _ => rfl
  | [], _ :: _, h, _ => by simp [ltL] at h
  | _ :: _, [], _, h => by simp [ltL] at h
  | a :: x, b :: y, h1, h2 => by
    simp only [ltL, Bool.or_eq_false_iff, Bool.and_eq_false_iff, decide_eq_false_iff_not] at h1 h2
    obtain rfl := ltS_tri h1.1 h2.1
    rw [ltL_tri (h1.2.resolve_left (fun h => h rfl)) (h2.2.resolve_left (fun h => h rfl))]
theorem ltL_trans : ∀ {x y z : List Str}, ltL x y = true → ltL y z = true → ltL x z = true
  | x, [], _, h, _ => by cases x <;> simp [ltL] at h
  | _, _ :: _, [], _, h => by simp [ltL] at h
  | [], _ :: _, _ :: _, _, _ => by simp [ltL]
  | a :: x, b :: y, c :: z, h1, h2 => by
    simp only [ltL, Bool.or_eq_true, decide_eq_true_eq, Bool.and_eq_true] at h1 h2 ⊢
    rcases h1 with h1 | ⟨rfl, h1⟩
    · rcases h2 with h2 | ⟨rfl, h2⟩
      · exact .inl (ltS_trans h1 h2)
      · exact .inl h1
    · rcases h2 with h2 | ⟨rfl, h2⟩
      · exact .inl h2
      · exact .inr ⟨rfl, ltL_trans h1 h2⟩
theorem cmpL_lt : ∀ (x y : List Str), cmpL x y < 0 ↔ ltL x y = true
  | [], [] => by simp [cmpL, ltL]
  | [], _ :: _ => by simp [cmpL, ltL]
  | _ :: _, [] => by simp [cmpL, ltL]
  | a :: x, b :: y => by
    simp only [cmpL, ltL, Bool.or_eq_true, Bool.and_eq_true, decide_eq_true_eq]
    unfold cmpT
    by_cases h1 : ltS a b = true
    · simp [h1]
    · by_cases e : a = b
      · subst e
        simp [ltS_irr, cmpL_lt x y]
      · simp [h1, e]
/-- the text of levels -/
def unl : List Str → Str
  | [] => []
  | [x] => x
  | x :: y :: l => x ++ 47 :: unl (y :: l)
theorem unl_levels : ∀ (s : Str), unl (levels s) = s
  | [] => rfl
  | c :: s => by
    have ih := unl_levels s
    simp only [levels]
    split
    · rename_i h
      subst h
      cases h2 : levels s with
      | nil => exact absurd h2 (levels_ne s)
      | cons x l => rw [h2] at ih; simp [unl, ih]
    · cases h2 : levels s with
      | nil => exact absurd h2 (levels_ne s)
      | cons x l =>
        rw [h2] at ih
        cases l with
        | nil => simp [unl] at ih ⊢; exact ih
        | cons y l => simp [unl] at ih ⊢; exact ih
theorem levels_inj {a b : Str} (h : levels a = levels b) : a = b := by rw [← unl_levels a, h, unl_levels]
/-- one filter is ahead of another one -/
def lessS (a b : Str) : Bool := ltL (levels a) (levels b)
theorem lessS_irr (a : Str) : lessS a a = false := ltL_irr _
theorem lessS_trans {a b c : Str} (h1 : lessS a b = true) (h2 : lessS b c = true) : lessS a c = true := ltL_trans h1 h2
theorem lessS_tri {a b : Str} (h1 : lessS a b = false) (h2 : lessS b a = false) : a = b := levels_inj (ltL_tri h1 h2)
theorem lessS_asym {a b : Str} (h : lessS a b = true) : lessS b a = false := by
  cases h2 : lessS b a with
  | false => rfl
  | true => have := lessS_trans h h2; rw [lessS_irr] at this; cases this

/-! what covers what -/
def covL : Bool → List Str → List Str → Bool
  | z, a, b => match a with
    | [] => (match b with
      | [] => true
      | _ :: _ => false)
    | x :: a' => decide (x = [35]) || (match b with
      | [] => false
      | y :: b' => if y = [35] then z && decide (x :: a' = [[43], [35]]) else (decide (x = [43]) || decide (x = y)) && covL false a' b')
def coversS (a b : Str) : Bool := filtS a && filtS b && covL true (levels a) (levels b)

/-- the rows that a filter's levels let by, of some length -/
def rowO : List Str → Nat → Option (List Str)
  | [], 0 => some []
  | [], _ + 1 => none
  | x :: l, n => if x = [35] then some (List.replicate n [43]) else match n with
    | 0 => none
    | n + 1 => (rowO l n).map (x :: ·)
theorem rowO_h (l : List Str) (n : Nat) : rowO ([35] :: l) n = some (List.replicate n [43]) := by cases n <;> simp [rowO]
theorem rowO_z {x : Str} (l : List Str) (h : x ≠ [35]) : rowO (x :: l) 0 = none := by simp [rowO, h]
theorem rowO_s {x : Str} (l : List Str) (n : Nat) (h : x ≠ [35]) : rowO (x :: l) (n + 1) = (rowO l n).map (x :: ·) := by simp [rowO, h]
theorem rowO_len : ∀ {l : List Str} {n : Nat} {r : List Str}, rowO l n = some r → r.length = n
  | [], 0, r, h => by simp [rowO] at h; simp [h]
  | [], n + 1, r, h => by simp [rowO] at h
  | x :: l, n, r, h => by
    simp only [rowO] at h
    split at h
    · simp at h; rw [← h]; simp
    · cases n with
      | zero => simp at h
      | succ n =>
        simp only [Option.map_eq_some_iff] at h
        obtain ⟨r', h1, rfl⟩ := h
        simp [rowO_len h1]
theorem rowO_row : ∀ (l : List Str) (n : Nat), filtL l = true → l ≠ [] → rowO l n = if (rowL l n).2 then some (rowL l n).1 else none
  | [], _, _, h => absurd rfl h
  | [x], n, hf, _ => by
    unfold rowL
    simp only [List.getLast?_singleton, List.length_singleton]
    by_cases hx : x = [35]
    · subst hx
      simp [rowO]
    · simp only [rowO, if_neg hx]
      cases n with
      | zero => simp
      | succ n =>
        cases n with
        | zero => simp [rowO]
        | succ n => simp [rowO]
  | x :: y :: l, n, hf, _ => by
    have hf' : filtL (y :: l) = true := by simp only [filtL, Bool.and_eq_true] at hf; exact hf.2
    have hx : x ≠ [35] := fun e => by
      have := filtL_rest hf (i := 0) (by simp [e])
      simp at this
    cases n with
    | zero =>
      rw [rowO_z _ hx]
      have : (rowL (x :: y :: l) 0).2 = false := by
        unfold rowL
        rw [List.getLast?_cons_cons]
        split
        · split <;> simp
        · rfl
      simp [this]
    | succ n =>
      have ih := rowO_row (y :: l) n hf' (by simp)
      have e : rowL (x :: y :: l) (n + 1) = (x :: (rowL (y :: l) n).1, (rowL (y :: l) n).2) := by
        unfold rowL
        rw [List.getLast?_cons_cons]
        split
        · split
          · simp only [List.length_cons, Nat.add_sub_cancel, Prod.mk.injEq]
            refine ⟨?_, ?_⟩
            · rw [show l.length + 1 = (l.length) + 1 from rfl, List.take_succ_cons, List.cons_append]
              congr 2
              rw [show n + 1 - (l.length + 1) = n - l.length from by omega]
            · rw [decide_eq_decide]; omega
          · simp
        · simp
      rw [e, rowO_s _ _ hx, ih]
      cases (rowL (y :: l) n).2 <;> simp
/-- there is a row -/
theorem rowO_ex : ∀ (l : List Str), filtL l = true → ∃ n r, rowO l n = some r ∧ n ≤ l.length ∧ (l ≠ [] → l.head? ≠ some [35] → 1 ≤ n) ∧ (l.head? = some [35] → n = 1)
  | [], _ => ⟨0, [], rfl, Nat.le_refl _, fun h => absurd rfl h, fun h => by simp at h⟩
  | x :: l, hf => by
    by_cases hx : x = [35]
    · subst hx
      exact ⟨1, _, rowO_h _ _, by simp, fun _ h => by simp at h, fun _ => rfl⟩
    · have hf' : filtL l = true := by
        cases l with
        | nil => rfl
        | cons y l => simp only [filtL, Bool.and_eq_true] at hf; exact hf.2
      obtain ⟨n, r, h1, h2, -⟩ := rowO_ex l hf'
      exact ⟨n + 1, x :: r, by simp [rowO, hx, h1], by simp; omega, fun _ _ => by omega, fun h => by simp at h; exact absurd h hx⟩
theorem rowO_rep (n : Nat) (y : List Str) : rowOk (List.replicate n [43]) y = true := rowOk_rep n y
theorem rowOk_trans : ∀ {x y z : List Str}, x.length = y.length → rowOk x y = true → rowOk y z = true → y.length = z.length → rowOk x z = true
  | [], _, _, _, _, _, _ => by simp [rowOk]
  | _ :: _, [], _, h, _, _, _ => by simp at h
  | _ :: _, _ :: _, [], _, _, _, h => by simp at h
  | a :: x, b :: y, c :: z, h1, h2, h3, h4 => by
    simp only [rowOk, Bool.and_eq_true, Bool.or_eq_true, decide_eq_true_eq] at h2 h3 ⊢
    simp at h1 h4
    refine ⟨?_, rowOk_trans h1 h2.2 h3.2 h4⟩
    rcases h2.1 with h | h
    · exact .inl h
    · rcases h3.1 with h' | h'
      · exact .inl (h.trans h')
      · exact .inr (h.trans h')
/-- by rows: of lengths from lo to hi -/
def CovX (lo hi : Nat) (a b : List Str) : Prop := ∀ n y, lo ≤ n → n ≤ hi → rowO b n = some y → ∃ x, rowO a n = some x ∧ rowOk x y = true
theorem CovX.trans {lo hi : Nat} {a b c : List Str} (h1 : CovX lo hi a b) (h2 : CovX lo hi b c) : CovX lo hi a c := fun n z hl hh hz => by
  obtain ⟨y, hy, h3⟩ := h2 n z hl hh hz
  obtain ⟨x, hx, h4⟩ := h1 n y hl hh hy
  exact ⟨x, hx, rowOk_trans ((rowO_len hx).trans (rowO_len hy).symm) h4 h3 ((rowO_len hy).trans (rowO_len hz).symm)⟩
theorem filtL_tl {x : Str} {l : List Str} (h : filtL (x :: l) = true) : filtL l = true := by
  cases l with
  | nil => rfl
  | cons y l => simp only [filtL, Bool.and_eq_true] at h; exact h.2
theorem filtL_hash {l : List Str} (h : filtL ([35] :: l) = true) : l = [] := by
  have := filtL_rest h (i := 0) rfl
  simp at this; exact this.symm ▸ rfl
theorem covL_iff : ∀ (a b : List Str) (z : Bool) (hi : Nat), filtL a = true → filtL b = true → b.length ≤ hi → (z = true → b ≠ [] ∧ 2 ≤ hi) → (covL z a b = true ↔ CovX (if z then 1 else 0) hi a b)
  | [], [], z, hi, _, _, _, hz => by
    cases z with
    | true => exact absurd rfl (hz rfl).1
    | false => exact ⟨fun _ n y _ _ h => ⟨y, h, by
        cases n with
        | zero => simp [rowO] at h; subst h; rfl
        | succ n => simp [rowO] at h⟩, fun _ => rfl⟩
  | [], y :: b, z, hi, _, hb, hl, hz => by
    have e : covL z [] (y :: b) = false := rfl
    rw [e]
    constructor
    · intro h; cases h
    · intro h
      obtain ⟨n, r, h1, h2, h3, h4⟩ := rowO_ex (y :: b) hb
      have hn : 1 ≤ n := by
        by_cases hy : y = [35]
        · have := h4 (by simp [hy]); omega
        · exact h3 (by simp) (by simpa using hy)
      obtain ⟨x, hx, -⟩ := h n r (by split <;> omega) (by omega) h1
      cases n with
      | zero => omega
      | succ n => simp [rowO] at hx
  | x :: a, [], z, hi, _, _, _, hz => by
    have hz' : z = false := by
      cases z with
      | true => exact absurd rfl (hz rfl).1
      | false => rfl
    subst hz'
    by_cases hx : x = [35]
    · subst hx
      simp only [covL, decide_true, Bool.true_or, true_iff]
      intro n y _ _ h
      exact ⟨_, rowO_h _ _, rowOk_rep _ _⟩
    · simp only [covL, decide_eq_false hx, Bool.false_or]
      constructor
      · intro h; cases h
      · intro h
        obtain ⟨x', hx', -⟩ := h 0 [] (by simp) (Nat.zero_le _) rfl
        simp [rowO, hx] at hx'
  | x :: a, y :: b, z, hi, ha, hb, hl, hz => by
    by_cases hx : x = [35]
    · subst hx
      simp only [covL, decide_true, Bool.true_or, true_iff]
      intro n y _ _ h
      exact ⟨_, rowO_h _ _, rowOk_rep _ _⟩
    simp only [covL, decide_eq_false hx, Bool.false_or]
    by_cases hy : y = [35]
    · subst hy
      have hb' := filtL_hash hb
      subst hb'
      rw [if_pos rfl]
      simp only [List.length_singleton] at hl
      cases z with
      | false =>
        simp only [Bool.false_and]
        constructor
        · intro h; cases h
        · intro h
          obtain ⟨x', hx', -⟩ := h 0 [] (by simp) (Nat.zero_le _) (by simp [rowO])
          simp [rowO, hx] at hx'
      | true =>
        have h2 := (hz rfl).2
        simp only [Bool.true_and, decide_eq_true_eq, if_true]
        constructor
        · intro h
          simp only [List.cons.injEq] at h
          obtain ⟨rfl, rfl⟩ := h
          intro n y h1 _ hy
          simp only [rowO, if_true, Option.some.injEq] at hy
          subst hy
          cases n with
          | zero => omega
          | succ n => exact ⟨_, by simp [rowO]; rfl, by simp [List.replicate_succ, rowOk, rowOk_rep]⟩
        · intro h
          obtain ⟨x1, hx1, ho1⟩ := h 1 [[43]] (Nat.le_refl _) (by omega) (by simp [rowO])
          simp only [rowO, if_neg hx, Option.map_eq_some_iff] at hx1
          obtain ⟨r, hr, rfl⟩ := hx1
          simp only [rowOk, Bool.or_self, Bool.and_eq_true, decide_eq_true_eq] at ho1
          obtain ⟨x2, hx2, -⟩ := h 2 [[43], [43]] (by omega) h2 (by simp [rowO, List.replicate])
          simp only [rowO, if_neg hx, Option.map_eq_some_iff] at hx2
          obtain ⟨r2, hr2, -⟩ := hx2
          cases a with
          | nil => simp [rowO] at hr2
          | cons w a =>
            by_cases hw : w = [35]
            · subst hw
              rw [ho1.1, filtL_hash (filtL_tl ha)]
            · simp [rowO, hw] at hr
    · rw [if_neg hy]
      have hl' : b.length ≤ hi - 1 := by simp at hl; omega
      have ih := covL_iff a b false (hi - 1) (filtL_tl ha) (filtL_tl hb) hl' (fun h => by cases h)
      rw [Bool.and_eq_true, ih]
      simp only [List.length_cons] at hl
      constructor
      · rintro ⟨h1, h2⟩ n w hn hn2 hw
        cases n with
        | zero => simp [rowO, hy] at hw
        | succ n =>
          simp only [rowO, if_neg hy, Option.map_eq_some_iff] at hw
          obtain ⟨w', hw', rfl⟩ := hw
          obtain ⟨v, hv, ho⟩ := h2 n w' (by simp) (by omega) hw'
          exact ⟨x :: v, by simp [rowO, hx, hv], by simp only [rowOk, h1, ho, Bool.and_self]⟩
      · intro h
        have key : ∀ n w, n ≤ hi - 1 → rowO b n = some w → ∃ v, rowO a n = some v ∧ (decide (x = [43]) || decide (x = y)) = true ∧ rowOk v w = true := fun n w hn hw => by
          obtain ⟨v, hv, ho⟩ := h (n + 1) (y :: w) (by split <;> omega) (by omega) (by simp [rowO, hy, hw])
          simp only [rowO, if_neg hx, Option.map_eq_some_iff] at hv
          obtain ⟨v', hv', rfl⟩ := hv
          simp only [rowOk, Bool.and_eq_true] at ho
          exact ⟨v', hv', ho.1, ho.2⟩
        obtain ⟨n, r, h1, h2, -⟩ := rowO_ex b (filtL_tl hb)
        obtain ⟨-, -, h3, -⟩ := key n r (by omega) h1
        refine ⟨h3, fun n w _ hn hw => ?_⟩
        obtain ⟨v, hv, -, ho⟩ := key n w hn hw
        exact ⟨v, hv, ho⟩
theorem filtS_L {s : Str} (h : filtS s = true) : (levels s).length ≤ 8 ∧ filtL (levels s) = true := by simpa [filtS] using h
theorem coversS_iff {a b : Str} (ha : filtS a = true) (hb : filtS b = true) : coversS a b = true ↔ CovX 1 8 (levels a) (levels b) := by
  have h1 := filtS_L ha
  have h2 := filtS_L hb
  rw [coversS, ha, hb]
  exact covL_iff _ _ true 8 h1.2 h2.2 h2.1 fun _ => ⟨levels_ne b, by omega⟩
theorem coversS_filt {a b : Str} (h : coversS a b = true) : filtS a = true ∧ filtS b = true := by
  simp only [coversS, Bool.and_eq_true] at h; exact h.1
theorem rowOk_refl : ∀ (x : List Str), rowOk x x = true
  | [] => rfl
  | a :: x => by simp [rowOk, rowOk_refl x]
theorem coversS_refl {a : Str} (h : filtS a = true) : coversS a a = true := (coversS_iff h h).2 fun _ y _ _ hy => ⟨y, hy, rowOk_refl y⟩
theorem coversS_trans {a b c : Str} (h1 : coversS a b = true) (h2 : coversS b c = true) : coversS a c = true := by
  obtain ⟨ha, hb⟩ := coversS_filt h1
  have hc := (coversS_filt h2).2
  exact (coversS_iff ha hc).2 (((coversS_iff ha hb).1 h1).trans ((coversS_iff hb hc).1 h2))
theorem matchS_iff {f t : Str} (hf : filtS f = true) (ht : rightS t = true) : matchS f t = true ↔ ∃ x, rowO (levels f) (levels t).length = some x ∧ rowOk x (levels t) = true := by
  rw [matchS, hf, ht, matchL_row _ _ (filtS_L hf).2 (levels_ne f), rowO_row _ _ (filtS_L hf).2 (levels_ne f)]
  cases (rowL (levels f) (levels t).length).2 <;> simp
theorem matchS_filt {f t : Str} (h : matchS f t = true) : filtS f = true ∧ rightS t = true := by
  simp only [matchS, Bool.and_eq_true] at h; exact h.1
theorem rightS_len {t : Str} (h : rightS t = true) : 1 ≤ (levels t).length ∧ (levels t).length ≤ 8 := by
  simp only [rightS, Bool.and_eq_true, decide_eq_true_eq] at h
  exact ⟨List.length_pos_iff.2 (levels_ne t), h.1⟩
/-- what covers lets by -/
theorem cov_match {g f t : Str} (h : coversS g f = true) (hm : matchS f t = true) : matchS g t = true := by
  obtain ⟨hg, hf⟩ := coversS_filt h
  have ht := (matchS_filt hm).2
  obtain ⟨y, hy, ho⟩ := (matchS_iff hf ht).1 hm
  obtain ⟨x, hx, ho2⟩ := (coversS_iff hg hf).1 h _ y (rightS_len ht).1 (rightS_len ht).2 hy
  exact (matchS_iff hg ht).2 ⟨x, hx, rowOk_trans ((rowO_len hx).trans (rowO_len hy).symm) ho2 ho (rowO_len hy)⟩
theorem names_filt : ∀ {l : List Str}, l.all nameS = true → filtL l = true
  | [], _ => rfl
  | [x], h => by simp at h; simp [filtL, h]
  | x :: y :: l, h => by
    simp only [List.all_cons, Bool.and_eq_true] at h
    simp only [filtL, h.1, Bool.true_or, Bool.true_and]
    exact names_filt (by simp [h.2])
theorem names_row : ∀ {l : List Str} {n : Nat}, l.all nameS = true → rowO l n = if n = l.length then some l else none
  | [], 0, _ => rfl
  | [], n + 1, _ => by simp [rowO]
  | x :: l, n, h => by
    simp only [List.all_cons, Bool.and_eq_true] at h
    have hx : x ≠ [35] := fun e => by rw [e, not_name_rest] at h; cases h.1
    cases n with
    | zero => rw [rowO_z _ hx]; simp
    | succ n =>
      rw [rowO_s _ _ hx]
      simp only [names_row h.2, List.length_cons, Nat.add_right_cancel_iff]
      split <;> simp
theorem right_filt {t : Str} (h : rightS t = true) : filtS t = true := by
  simp only [rightS, Bool.and_eq_true, decide_eq_true_eq] at h
  simp [filtS, h.1, names_filt h.2]
/-- at a topic: to let by is to cover -/
theorem match_cov {g t : Str} (ht : rightS t = true) : matchS g t = coversS g t := by
  have hn : (levels t).all nameS = true := by simp only [rightS, Bool.and_eq_true] at ht; exact ht.2
  cases hg : filtS g with
  | false => simp [matchS, coversS, hg]
  | true =>
    rw [Bool.eq_iff_iff, matchS_iff hg ht, coversS_iff hg (right_filt ht)]
    constructor
    · rintro ⟨x, hx, ho⟩ n y _ _ hy
      rw [names_row hn] at hy
      split at hy
      · rename_i e; subst e; simp at hy; subst hy; exact ⟨x, hx, ho⟩
      · cases hy
    · intro h
      exact h _ (levels t) (rightS_len ht).1 (rightS_len ht).2 (by rw [names_row hn]; simp)
end Go.Proofs.YtipljeomgdomnaaGreatDoor
/- Cov1 -/
/-
  The least of filters, plainly.
-/
namespace Go.Proofs.YtipljeomgdomnaaGreatDoor
open Go

/-- ordered, each once -/
abbrev SortedS (l : List Str) : Prop := l.Pairwise fun a b => lessS a b = true
theorem sortedS_ext : ∀ {l m : List Str}, SortedS l → SortedS m → (∀ x, x ∈ l ↔ x ∈ m) → l = m
  | [], [], _, _, _ => rfl
  | [], y :: m, _, _, h => by have := (h y).2 (by simp); simp at this
  | x :: l, [], _, _, h => by have := (h x).1 (by simp); simp at this
  | x :: l, y :: m, h1, h2, h => by
    rw [SortedS, List.pairwise_cons] at h1 h2
    have e : x = y := by
      rcases List.mem_cons.1 ((h x).1 (by simp)) with e | hx
      · exact e
      · rcases List.mem_cons.1 ((h y).2 (by simp)) with e | hy
        · exact e.symm
        · have := lessS_asym (h1.1 y hy)
          rw [h2.1 x hx] at this; cases this
    subst e
    congr 1
    refine sortedS_ext h1.2 h2.2 fun z => ⟨fun hz => ?_, fun hz => ?_⟩
    · rcases List.mem_cons.1 ((h z).1 (by simp [hz])) with e | h'
      · subst e; have := h1.1 z hz; rw [lessS_irr] at this; cases this
      · exact h'
    · rcases List.mem_cons.1 ((h z).2 (by simp [hz])) with e | h'
      · subst e; have := h2.1 z hz; rw [lessS_irr] at this; cases this
      · exact h'
theorem SortedS.nodup {l : List Str} (h : SortedS l) : l.Nodup := h.imp fun {a b} hab => fun e => by subst e; rw [lessS_irr] at hab; cases hab

/-- into its place -/
def insS : List Str → Str → List Str
  | [], f => [f]
  | x :: l, f => if lessS x f = true then x :: insS l f else if x = f then x :: l else f :: x :: l
theorem mem_insS {l : List Str} {f y : Str} : y ∈ insS l f ↔ y ∈ l ∨ y = f := by
  induction l with
  | nil => simp [insS]
  | cons x l ih =>
    simp only [insS]
    split
    · simp only [List.mem_cons, ih]; rw [or_assoc]
    · split
      · rename_i e; subst e
        simp only [List.mem_cons]
        constructor
        · exact .inl
        · rintro (h | h)
          · exact h
          · exact .inl h
      · simp only [List.mem_cons]
        constructor
        · rintro (h | h | h)
          · exact .inr h
          · exact .inl (.inl h)
          · exact .inl (.inr h)
        · rintro ((h | h) | h)
          · exact .inr (.inl h)
          · exact .inr (.inr h)
          · exact .inl h
theorem sorted_insS {l : List Str} {f : Str} (h : SortedS l) : SortedS (insS l f) := by
  induction l with
  | nil => simp [insS]
  | cons x l ih =>
    rw [SortedS, List.pairwise_cons] at h
    simp only [insS]
    split
    · rename_i hx
      rw [SortedS, List.pairwise_cons]
      refine ⟨fun y hy => ?_, ih h.2⟩
      rcases mem_insS.1 hy with hy | rfl
      · exact h.1 y hy
      · exact hx
    · rename_i hx
      split
      · rw [SortedS, List.pairwise_cons]; exact h
      · rename_i hne
        have hfx : lessS f x = true := by
          cases h2 : lessS f x with
          | true => rfl
          | false => exact absurd (lessS_tri (by simpa using hx) h2) hne
        rw [SortedS, List.pairwise_cons, List.pairwise_cons]
        refine ⟨fun y hy => ?_, h⟩
        rcases List.mem_cons.1 hy with rfl | hy
        · exact hfx
        · exact lessS_trans hfx (h.1 y hy)
/-- the filters of some, in order, each once -/
def cleanS (l : List Str) : List Str := (l.filter filtS).foldl insS []
theorem foldl_ins : ∀ (l a : List Str), SortedS a → SortedS (l.foldl insS a) ∧ ∀ y, y ∈ l.foldl insS a ↔ y ∈ a ∨ y ∈ l
  | [], a, h => ⟨h, fun y => by simp⟩
  | x :: l, a, h => by
    obtain ⟨h1, h2⟩ := foldl_ins l (insS a x) (sorted_insS h)
    refine ⟨h1, fun y => ?_⟩
    rw [List.foldl_cons, h2 y, mem_insS, List.mem_cons, or_assoc]
theorem clean_sorted (l : List Str) : SortedS (cleanS l) := (foldl_ins _ [] List.Pairwise.nil).1
theorem mem_clean {l : List Str} {y : Str} : y ∈ cleanS l ↔ y ∈ l ∧ filtS y = true := by
  rw [cleanS, (foldl_ins _ [] List.Pairwise.nil).2 y]
  simp
theorem clean_ext {l m : List Str} (h : ∀ y, filtS y = true → (y ∈ l ↔ y ∈ m)) : cleanS l = cleanS m :=
  sortedS_ext (clean_sorted _) (clean_sorted _) fun y => by
    rw [mem_clean, mem_clean]
    constructor
    · rintro ⟨h1, h2⟩; exact ⟨(h y h2).1 h1, h2⟩
    · rintro ⟨h1, h2⟩; exact ⟨(h y h2).2 h1, h2⟩
theorem insS_len (l : List Str) (f : Str) : (insS l f).length ≤ l.length + 1 := by
  induction l with
  | nil => simp [insS]
  | cons x l ih =>
    simp only [insS]
    split
    · simp; omega
    · split <;> simp
theorem foldl_len : ∀ (l a : List Str), (l.foldl insS a).length ≤ a.length + l.length
  | [], a => by simp
  | x :: l, a => by
    have h1 := foldl_len l (insS a x)
    have h2 := insS_len a x
    simp only [List.foldl_cons, List.length_cons]; omega
theorem clean_len (l : List Str) : (cleanS l).length ≤ l.length := by
  have h1 := foldl_len (l.filter filtS) []
  have h2 := List.length_filter_le filtS l
  simp only [List.length_nil] at h1
  unfold cleanS; omega
theorem clean_id {l : List Str} (hs : SortedS l) (hf : ∀ y ∈ l, filtS y = true) : cleanS l = l :=
  sortedS_ext (clean_sorted _) hs fun y => by rw [mem_clean]; exact ⟨fun h => h.1, fun h => ⟨h, hf y h⟩⟩
theorem clean_snoc (l : List Str) (x : Str) : cleanS (l ++ [x]) = if filtS x = true then insS (cleanS l) x else cleanS l := by
  unfold cleanS
  rw [List.filter_append, List.foldl_append]
  by_cases h : filtS x = true <;> simp [h]

/-- one filter goes because of another one -/
def domS (g f : Str) : Bool := decide (g ≠ f) && coversS g f && (!coversS f g || lessS g f)
theorem dom_iff {g f : Str} : domS g f = true ↔ g ≠ f ∧ coversS g f = true ∧ (coversS f g = false ∨ lessS g f = true) := by
  simp only [domS, Bool.and_eq_true, decide_eq_true_eq, Bool.or_eq_true, Bool.not_eq_true', and_assoc]
theorem dom_irr (f : Str) : domS f f = false := by simp [domS]
theorem dom_trans {h g f : Str} (h1 : domS h g = true) (h2 : domS g f = true) : domS h f = true := by
  rw [dom_iff] at h1 h2 ⊢
  obtain ⟨n1, c1, o1⟩ := h1
  obtain ⟨n2, c2, o2⟩ := h2
  refine ⟨?_, coversS_trans c1 c2, ?_⟩
  · rintro rfl
    rcases o1 with o1 | o1
    · rw [c2] at o1; cases o1
    · rcases o2 with o2 | o2
      · rw [c1] at o2; cases o2
      · have := lessS_asym o1; rw [o2] at this; cases this
  · cases hc : coversS f h with
    | false => exact .inl rfl
    | true =>
      right
      have c3 := coversS_trans c2 hc
      have c4 := coversS_trans hc c1
      rcases o1 with o1 | o1
      · rw [c3] at o1; cases o1
      · rcases o2 with o2 | o2
        · rw [c4] at o2; cases o2
        · exact lessS_trans o1 o2
/-- each that goes goes because of one that stays -/
theorem dom_max : ∀ (l : List Str) (f : Str), f ∈ l → ∃ m ∈ l, (m = f ∨ domS m f = true) ∧ ∀ g ∈ l, domS g m = false := by
  suffices H : ∀ (k : Nat) (l : List Str) (f : Str), f ∈ l → (l.filter fun g => domS g f).length = k → ∃ m ∈ l, (m = f ∨ domS m f = true) ∧ ∀ g ∈ l, domS g m = false from fun l f hf => H _ l f hf rfl
  intro k
  induction k using Nat.strongRecOn with
  | _ k ih =>
    intro l f hf hk
    by_cases hd : ∃ g ∈ l, domS g f = true
    · obtain ⟨g, hg, hgf⟩ := hd
      have hlt : (l.filter fun x => domS x g).length < k := by
        rw [← hk]
        have hsub : (l.filter fun x => domS x g) = (l.filter fun x => domS x f).filter fun x => domS x g := by
          rw [List.filter_filter]
          refine List.filter_congr fun x _ => ?_
          cases h : domS x g with
          | false => rfl
          | true => simp [dom_trans h hgf]
        rw [hsub]
        refine Nat.lt_of_le_of_ne (List.length_filter_le _ _) fun e => ?_
        have := List.length_filter_eq_length_iff.1 e g (List.mem_filter.2 ⟨hg, hgf⟩)
        rw [dom_irr] at this; cases this
      obtain ⟨m, hm, h1, h2⟩ := ih _ hlt l g hg rfl
      refine ⟨m, hm, .inr ?_, h2⟩
      rcases h1 with rfl | h1
      · exact hgf
      · exact dom_trans h1 hgf
    · exact ⟨f, hf, .inl rfl, fun g hg => by
        cases h : domS g f with
        | false => rfl
        | true => exact absurd ⟨g, hg, h⟩ hd⟩
/-- those that stay -/
def topS (c : List Str) : List Str := c.filter fun f => !c.any fun g => domS g f
def leastS (l : List Str) : List Str := topS (cleanS l)
theorem mem_top {c : List Str} {f : Str} : f ∈ topS c ↔ f ∈ c ∧ ∀ g ∈ c, domS g f = false := by
  simp [topS, List.mem_filter]
theorem mem_least {l : List Str} {f : Str} : f ∈ leastS l ↔ (f ∈ l ∧ filtS f = true) ∧ ∀ g ∈ l, filtS g = true → domS g f = false := by
  rw [leastS, mem_top, mem_clean]
  refine and_congr Iff.rfl ⟨fun h g hg hf => h g (mem_clean.2 ⟨hg, hf⟩), fun h g hg => h g (mem_clean.1 hg).1 (mem_clean.1 hg).2⟩
theorem least_sorted (l : List Str) : SortedS (leastS l) := List.Pairwise.sublist List.filter_sublist (clean_sorted l)
theorem least_max {l : List Str} {f : Str} (h : f ∈ l) (hf : filtS f = true) : ∃ m ∈ leastS l, m = f ∨ domS m f = true := by
  obtain ⟨m, hm, h1, h2⟩ := dom_max (cleanS l) f (mem_clean.2 ⟨h, hf⟩)
  exact ⟨m, mem_top.2 ⟨hm, h2⟩, h1⟩
theorem least_cov {l : List Str} {f : Str} (h : f ∈ l) (hf : filtS f = true) : ∃ m ∈ leastS l, coversS m f = true := by
  obtain ⟨m, hm, h1⟩ := least_max h hf
  refine ⟨m, hm, ?_⟩
  rcases h1 with rfl | h1
  · exact coversS_refl hf
  · exact (dom_iff.1 h1).2.1
theorem least_ext {l m : List Str} (h : ∀ y, filtS y = true → (y ∈ l ↔ y ∈ m)) : leastS l = leastS m := by rw [leastS, leastS, clean_ext h]
theorem least_len (l : List Str) : (leastS l).length ≤ l.length := Nat.le_trans (List.length_filter_le _ _) (clean_len l)
/-- none covers another one -/
theorem least_none {l : List Str} {f g : Str} (hf : f ∈ leastS l) (hg : g ∈ leastS l) (hne : g ≠ f) : coversS g f = false := by
  obtain ⟨⟨f1, f2⟩, f3⟩ := mem_least.1 hf
  obtain ⟨⟨g1, g2⟩, g3⟩ := mem_least.1 hg
  cases hc : coversS g f with
  | false => rfl
  | true =>
    have h1 : ¬ (g ≠ f ∧ coversS g f = true ∧ (coversS f g = false ∨ lessS g f = true)) := fun h => by
      have := dom_iff.2 h; rw [f3 g g1 g2] at this; cases this
    have h2 : ¬ (f ≠ g ∧ coversS f g = true ∧ (coversS g f = false ∨ lessS f g = true)) := fun h => by
      have := dom_iff.2 h; rw [g3 f f1 f2] at this; cases this
    have hc2 : coversS f g = true := by
      cases h : coversS f g with
      | true => rfl
      | false => exact absurd ⟨hne, hc, .inl h⟩ h1
    have l1 : lessS g f = false := by
      cases h : lessS g f with
      | false => rfl
      | true => exact absurd ⟨hne, hc, .inr h⟩ h1
    have l2 : lessS f g = false := by
      cases h : lessS f g with
      | false => rfl
      | true => exact absurd ⟨hne.symm, hc2, .inr h⟩ h2
    exact absurd (lessS_tri l1 l2) hne
theorem top_sub {l : List Str} {f : Str} (h : f ∈ leastS l) : f ∈ l ∧ filtS f = true := (mem_least.1 h).1
theorem least_least (l : List Str) : leastS (leastS l) = leastS l :=
  sortedS_ext (least_sorted _) (least_sorted _) fun f => by
    constructor
    · intro h; exact (top_sub h).1
    · intro h
      refine mem_least.2 ⟨⟨h, (top_sub h).2⟩, fun g hg _ => (mem_least.1 h).2 g (top_sub hg).1 (top_sub hg).2⟩
/-- of the least of some and of others: of all -/
theorem least_app (a b : List Str) : leastS (leastS a ++ b) = leastS (a ++ b) :=
  sortedS_ext (least_sorted _) (least_sorted _) fun f => by
    rw [mem_least, mem_least]
    constructor
    · rintro ⟨⟨h1, h2⟩, h3⟩
      have hin : f ∈ a ++ b := by
        rcases List.mem_append.1 h1 with h | h
        · exact List.mem_append.2 (.inl (top_sub h).1)
        · exact List.mem_append.2 (.inr h)
      refine ⟨⟨hin, h2⟩, fun g hg hgf => ?_⟩
      rcases List.mem_append.1 hg with h | h
      · obtain ⟨m, hm, h4⟩ := least_max h hgf
        have h5 := h3 m (List.mem_append.2 (.inl hm)) (top_sub hm).2
        rcases h4 with rfl | h4
        · exact h5
        · cases h6 : domS g f with
          | false => rfl
          | true => rw [dom_trans h4 h6] at h5; cases h5
      · exact h3 g (List.mem_append.2 (.inr h)) hgf
    · rintro ⟨⟨h1, h2⟩, h3⟩
      refine ⟨⟨?_, h2⟩, fun g hg hgf => ?_⟩
      · rcases List.mem_append.1 h1 with h | h
        · exact List.mem_append.2 (.inl (mem_least.2 ⟨⟨h, h2⟩, fun g hg hgf => h3 g (List.mem_append.2 (.inl hg)) hgf⟩))
        · exact List.mem_append.2 (.inr h)
      · rcases List.mem_append.1 hg with h | h
        · exact h3 g (List.mem_append.2 (.inl (top_sub h).1)) hgf
        · exact h3 g (List.mem_append.2 (.inr h)) hgf
def letsS (l : List Str) (t : Str) : Bool := l.any fun f => matchS f t
def holdsS (l : List Str) (f : Str) : Bool := l.any fun g => coversS g f
theorem lets_least (l : List Str) (t : Str) : letsS l t = letsS (leastS l) t := by
  rw [Bool.eq_iff_iff]
  simp only [letsS, List.any_eq_true]
  constructor
  · rintro ⟨f, hf, hm⟩
    obtain ⟨m, hm2, hc⟩ := least_cov hf (matchS_filt hm).1
    exact ⟨m, hm2, cov_match hc hm⟩
  · rintro ⟨m, hm, hm2⟩
    exact ⟨m, (top_sub hm).1, hm2⟩
theorem holds_least {l : List Str} {f : Str} (h : f ∈ l) (hf : filtS f = true) : holdsS (leastS l) f = true := by
  obtain ⟨m, hm, hc⟩ := least_cov h hf
  exact List.any_eq_true.2 ⟨m, hm, hc⟩
theorem lets_holds {l : List Str} {f t : Str} (h : holdsS l f = true) (hm : matchS f t = true) : letsS l t = true := by
  obtain ⟨g, hg, hc⟩ := List.any_eq_true.1 h
  exact List.any_eq_true.2 ⟨g, hg, cov_match hc hm⟩
theorem lets_right {l : List Str} {t : Str} (h : rightS t = true) : letsS l t = holdsS l t := by
  simp only [letsS, holdsS, match_cov h]

/-- those that are not in others -/
def withoutS (l m : List Str) : List Str := l.filter fun x => !decide (x ∈ m)
theorem mem_without {l m : List Str} {x : Str} : x ∈ withoutS l m ↔ x ∈ l ∧ x ∉ m := by simp [withoutS]

/-! which two cover one another -/
theorem covL_anti : ∀ (a b : List Str), filtL a = true → filtL b = true → covL false a b = true → covL false b a = true → a = b
  | [], [], _, _, _, _ => rfl
  | [], _ :: _, _, _, h, _ => by simp [covL] at h
  | _ :: _, [], _, _, _, h => by simp [covL] at h
  | x :: a, y :: b, ha, hb, h1, h2 => by
    simp only [covL, Bool.false_and] at h1 h2
    by_cases hx : x = [35]
    · subst hx
      simp only [if_true] at h2
      have hy : y = [35] := by simpa using h2
      subst hy
      rw [filtL_hash ha, filtL_hash hb]
    · have hy : y ≠ [35] := fun e => by subst e; simp [hx] at h1
      simp only [hx, hy, decide_false, Bool.false_or, if_false, Bool.and_eq_true, Bool.or_eq_true, decide_eq_true_eq] at h1 h2
      have e : x = y := by
        rcases h1.1 with e1 | e1
        · rcases h2.1 with e2 | e2
          · rw [e1, e2]
          · exact e2.symm
        · exact e1
      rw [e, covL_anti a b (filtL_tl ha) (filtL_tl hb) h1.2 h2.2]
theorem covers_anti {a b : Str} (h1 : coversS a b = true) (h2 : coversS b a = true) : a = b ∨ (a = [35] ∧ b = [43, 47, 35]) ∨ (b = [35] ∧ a = [43, 47, 35]) := by
  obtain ⟨ha, hb⟩ := coversS_filt h1
  have fa := (filtS_L ha).2
  have fb := (filtS_L hb).2
  have e35 : levels [35] = [[35]] := by decide
  have e43 : levels [43, 47, 35] = [[43], [35]] := by decide
  have c1 : covL true (levels a) (levels b) = true := by simp only [coversS, Bool.and_eq_true] at h1; exact h1.2
  have c2 : covL true (levels b) (levels a) = true := by simp only [coversS, Bool.and_eq_true] at h2; exact h2.2
  cases hla : levels a with
  | nil => exact absurd hla (levels_ne a)
  | cons x la =>
    cases hlb : levels b with
    | nil => exact absurd hlb (levels_ne b)
    | cons y lb =>
      rw [hla, hlb] at c1 c2
      rw [hla] at fa
      rw [hlb] at fb
      simp only [covL, Bool.true_and] at c1 c2
      by_cases hx : x = [35]
      · subst hx
        have hla' := filtL_hash fa
        subst hla'
        have ea : a = [35] := levels_inj (by rw [hla, e35])
        simp only [if_true, Bool.or_eq_true, decide_eq_true_eq, List.cons.injEq] at c2
        rcases c2 with rfl | ⟨rfl, rfl⟩
        · rw [filtL_hash fb] at hlb
          exact .inl (levels_inj (by rw [hla, hlb]))
        · exact .inr (.inl ⟨ea, levels_inj (by rw [hlb, e43])⟩)
      · by_cases hy : y = [35]
        · subst hy
          have hlb' := filtL_hash fb
          subst hlb'
          have eb : b = [35] := levels_inj (by rw [hlb, e35])
          simp only [hx, if_true, decide_false, Bool.false_or, decide_eq_true_eq, List.cons.injEq] at c1
          obtain ⟨rfl, rfl⟩ := c1
          exact .inr (.inr ⟨eb, levels_inj (by rw [hla, e43])⟩)
        · simp only [hx, hy, decide_false, Bool.false_or, if_false, Bool.and_eq_true, Bool.or_eq_true, decide_eq_true_eq] at c1 c2
          have e : x = y := by
            rcases c1.1 with e1 | e1
            · rcases c2.1 with e2 | e2
              · rw [e1, e2]
              · exact e2.symm
            · exact e1
          left
          apply levels_inj
          rw [hla, hlb, e, covL_anti la lb (filtL_tl fa) (filtL_tl fb) c1.2 c2.2]
theorem all_cov {f : Str} (hf : filtS f = true) : coversS [35] f = true := by
  have h35 : filtS [35] = true := by decide
  have e35 : levels [35] = [[35]] := by decide
  rw [coversS, h35, hf, e35]
  simp [covL]
/-- one more that is held: as many as there were -/
theorem least_add {l : List Str} {f : Str} (hf : filtS f = true) (hh : holdsS l f = true) : (leastS (l ++ [f])).length = (leastS l).length := by
  obtain ⟨g, hg, hc⟩ := List.any_eq_true.1 hh
  have hgf := (coversS_filt hc).1
  by_cases hin : f ∈ l
  · congr 1
    exact least_ext fun y _ => by simp only [List.mem_append, List.mem_singleton]; exact ⟨fun h => h.elim id fun e => e ▸ hin, .inl⟩
  by_cases hd : ∃ g ∈ l, filtS g = true ∧ domS g f = true
  · obtain ⟨h, hh1, hh2, hh3⟩ := hd
    congr 1
    refine sortedS_ext (least_sorted _) (least_sorted _) fun m => ?_
    rw [mem_least, mem_least]
    simp only [List.mem_append, List.mem_singleton]
    constructor
    · rintro ⟨⟨h1, h2⟩, h3⟩
      rcases h1 with h1 | rfl
      · exact ⟨⟨h1, h2⟩, fun x hx hxf => h3 x (.inl hx) hxf⟩
      · have := h3 h (.inl hh1) hh2
        rw [hh3] at this; cases this
    · rintro ⟨⟨h1, h2⟩, h3⟩
      refine ⟨⟨.inl h1, h2⟩, fun x hx hxf => ?_⟩
      rcases hx with hx | rfl
      · exact h3 x hx hxf
      · cases h6 : domS x m with
        | false => rfl
        | true => have := h3 h hh1 hh2; rw [dom_trans hh3 h6] at this; cases this
  · have hne : g ≠ f := fun e => hin (e ▸ hg)
    have hnd : ¬ (g ≠ f ∧ coversS g f = true ∧ (coversS f g = false ∨ lessS g f = true)) := fun h => hd ⟨g, hg, hgf, dom_iff.2 h⟩
    have hc2 : coversS f g = true := by
      cases h : coversS f g with
      | true => rfl
      | false => exact absurd ⟨hne, hc, .inl h⟩ hnd
    have hl : lessS g f = false := by
      cases h : lessS g f with
      | false => rfl
      | true => exact absurd ⟨hne, hc, .inr h⟩ hnd
    have hlt : lessS [35] [43, 47, 35] = true := by decide
    have hgt : lessS [43, 47, 35] [35] = false := by decide
    rcases covers_anti hc hc2 with e | ⟨e1, e2⟩ | ⟨e1, e2⟩
    · exact absurd e hne
    · subst e1 e2; rw [hlt] at hl; cases hl
    · subst e1 e2
      have n1 : leastS (l ++ [[35]]) = [[35]] := by
        refine sortedS_ext (least_sorted _) (by simp) fun m => ?_
        rw [mem_least]
        simp only [List.mem_append, List.mem_singleton]
        constructor
        · rintro ⟨⟨-, h2⟩, h3⟩
          have h4 := h3 [35] (.inr rfl) hf
          apply Classical.byContradiction
          intro hne2
          have : domS [35] m = true := dom_iff.2 ⟨fun e => hne2 e.symm, all_cov h2, by
            cases h5 : coversS m [35] with
            | false => exact .inl rfl
            | true =>
              right
              rcases covers_anti h5 (all_cov h2) with e | ⟨e1, e2⟩ | ⟨e1, e2⟩
              · exact absurd e hne2
              · exact absurd e1 hne2
              · rw [e2]; exact hlt⟩
          rw [this] at h4; cases h4
        · rintro rfl
          refine ⟨⟨.inr rfl, hf⟩, fun x hx hxf => ?_⟩
          cases h6 : domS x [35] with
          | false => rfl
          | true =>
            obtain ⟨d1, d2, d3⟩ := dom_iff.1 h6
            rcases covers_anti d2 (all_cov hxf) with e | ⟨e1, e2⟩ | ⟨e1, e2⟩
            · exact absurd e d1
            · exact absurd e1 d1
            · subst e2
              rcases d3 with d3 | d3
              · rw [hc2] at d3; cases d3
              · rw [hgt] at d3; cases d3
      have n2 : leastS l = [[43, 47, 35]] := by
        refine sortedS_ext (least_sorted _) (by simp) fun m => ?_
        rw [mem_least]
        simp only [List.mem_singleton]
        constructor
        · rintro ⟨⟨h1, h2⟩, h3⟩
          have h4 := h3 _ hg hgf
          apply Classical.byContradiction
          intro hne2
          have hcm : coversS [43, 47, 35] m = true := coversS_trans hc (all_cov h2)
          have : domS [43, 47, 35] m = true := dom_iff.2 ⟨fun e => hne2 e.symm, hcm, by
            cases h5 : coversS m [43, 47, 35] with
            | false => exact .inl rfl
            | true =>
              rcases covers_anti h5 hcm with e | ⟨e1, e2⟩ | ⟨e1, e2⟩
              · exact absurd e hne2
              · exact absurd (e1 ▸ h1) hin
              · cases e1⟩
          rw [this] at h4; cases h4
        · rintro rfl
          refine ⟨⟨hg, hgf⟩, fun x hx hxf => ?_⟩
          cases h6 : domS x [43, 47, 35] with
          | false => rfl
          | true =>
            obtain ⟨d1, d2, d3⟩ := dom_iff.1 h6
            have hcm : coversS [43, 47, 35] x = true := coversS_trans hc (all_cov hxf)
            rcases covers_anti d2 hcm with e | ⟨e1, e2⟩ | ⟨e1, e2⟩
            · exact absurd e d1
            · exact absurd (e1 ▸ hx) hin
            · cases e1
      rw [n1, n2]; rfl
end Go.Proofs.YtipljeomgdomnaaGreatDoor
/- T2 -/
/-
  Who asks for a topic: what the tree tells, and what the filters let by.
-/
namespace Go.Proofs.YtipljeomgdomnaaGreatDoor
open Go

/-- all paths that are asked for are filters' -/
def PathsOk (t : HT) : Prop := ∀ p i, t.cnt p i ≠ 0 → filtL p = true
theorem PathsOk.kid {b mk ma ck ca : Nat} {A : AL} {K : HF} (h : PathsOk (.nd b mk ma ck ca A K)) {x : Str} {u : HT} (hg : K.get x = some u) : PathsOk u := fun p i hc => by
  have := h (x :: p) i (by simp only [HT.cnt, HF.cnt_get, hg]; exact hc)
  exact filtL_tl this
/-- what is gathered, from a node on -/
def HT.gath : List Str → HT → Int → Prop
  | lv, .nd _ _ _ _ _ A K, i => (∃ u, K.get [35] = some u ∧ u.cnt [] i ≠ 0) ∨ match lv with
    | [] => getA A i ≠ 0
    | y :: lv => (∃ u, K.get y = some u ∧ HT.gath lv u i) ∨ (∃ u, K.get [43] = some u ∧ HT.gath lv u i)
theorem HT.gath_iff : ∀ (lv : List Str) (t : HT) (i : Int), PathsOk t → [35] ∉ lv → (HT.gath lv t i ↔ ∃ p, matchL p lv = true ∧ t.cnt p i ≠ 0)
  | [], .nd b mk ma ck ca A K, i, hp, _ => by
    simp only [HT.gath]
    constructor
    · rintro (⟨u, hg, hc⟩ | hc)
      · exact ⟨[[35]], by simp [matchL], by simp only [HT.cnt, HF.cnt_get, hg]; exact hc⟩
      · exact ⟨[], by simp [matchL], hc⟩
    · rintro ⟨p, hm, hc⟩
      cases p with
      | nil => exact .inr hc
      | cons x p =>
        simp only [matchL, Bool.or_false, decide_eq_true_eq] at hm
        subst hm
        have hp0 := filtL_hash (hp _ _ hc)
        subst hp0
        simp only [HT.cnt, HF.cnt_get] at hc
        cases hg : K.get [35] with
        | none => rw [hg] at hc; exact absurd rfl hc
        | some u => rw [hg] at hc; exact .inl ⟨u, rfl, hc⟩
  | y :: lv, .nd b mk ma ck ca A K, i, hp, hn => by
    simp only [List.mem_cons, not_or] at hn
    simp only [HT.gath]
    constructor
    · rintro (⟨u, hg, hc⟩ | ⟨u, hg, hc⟩ | ⟨u, hg, hc⟩)
      · exact ⟨[[35]], by simp [matchL], by simp only [HT.cnt, HF.cnt_get, hg]; exact hc⟩
      · obtain ⟨p, h1, h2⟩ := (HT.gath_iff lv u i (hp.kid hg) hn.2).1 hc
        exact ⟨y :: p, by simp [matchL, h1], by simp only [HT.cnt, HF.cnt_get, hg]; exact h2⟩
      · obtain ⟨p, h1, h2⟩ := (HT.gath_iff lv u i (hp.kid hg) hn.2).1 hc
        exact ⟨[43] :: p, by simp [matchL, h1], by simp only [HT.cnt, HF.cnt_get, hg]; exact h2⟩
    · rintro ⟨p, hm, hc⟩
      cases p with
      | nil => simp [matchL] at hm
      | cons x p =>
        simp only [HT.cnt, HF.cnt_get] at hc
        by_cases hx : x = [35]
        · subst hx
          have hp0 : p = [] := by
            have := hp ([35] :: p) i (by simp only [HT.cnt, HF.cnt_get]; exact hc)
            exact filtL_hash this
          subst hp0
          cases hg : K.get [35] with
          | none => rw [hg] at hc; exact absurd rfl hc
          | some u => rw [hg] at hc; exact .inl ⟨u, rfl, hc⟩
        · simp only [matchL, decide_eq_false hx, Bool.false_or, Bool.and_eq_true, Bool.or_eq_true, decide_eq_true_eq] at hm
          right
          cases hg : K.get x with
          | none => rw [hg] at hc; exact absurd rfl hc
          | some u =>
            rw [hg] at hc
            have hgu := (HT.gath_iff lv u i (hp.kid hg) hn.2).2 ⟨p, hm.2, hc⟩
            rcases hm.1 with e | e
            · subst e; exact .inr ⟨u, hg, hgu⟩
            · subst e; exact .inl ⟨u, hg, hgu⟩

/-! the document's asks -/
abbrev Asks := List (Str × Int × Int)
def hasK : Asks → Str → Int → Int
  | [], _, _ => 0
  | (g, j, n) :: L, f, i => if g = f ∧ j = i then n else hasK L f i
/-- each filter once for each who asks; how often: at least once -/
structure AsksOk (L : Asks) : Prop where
  keys : (L.map fun x => (x.1, x.2.1)).Nodup
  pos : ∀ x ∈ L, 0 < x.2.2
  filt : ∀ x ∈ L, filtS x.1 = true ∧ 0 ≤ x.2.1
theorem has_mem {L : Asks} (h : AsksOk L) {f : Str} {i n : Int} (hm : (f, i, n) ∈ L) : hasK L f i = n := by
  have hk := h.keys
  clear h
  induction L with
  | nil => cases hm
  | cons x L ih =>
    obtain ⟨g, j, m⟩ := x
    simp only [List.map_cons, List.nodup_cons] at hk
    simp only [hasK]
    rcases List.mem_cons.1 hm with e | hm
    · cases e; simp
    · have : ¬ (g = f ∧ j = i) := fun ⟨e1, e2⟩ => hk.1 (List.mem_map.2 ⟨(f, i, n), hm, by rw [e1, e2]⟩)
      rw [if_neg this]
      exact ih hm hk.2
theorem has_ne {L : Asks} {f : Str} {i : Int} (h : hasK L f i ≠ 0) : (f, i, hasK L f i) ∈ L := by
  induction L with
  | nil => exact absurd rfl h
  | cons x L ih =>
    obtain ⟨g, j, m⟩ := x
    simp only [hasK] at h ⊢
    by_cases e : g = f ∧ j = i
    · rw [if_pos e]; rw [e.1, e.2]; exact List.mem_cons_self
    · rw [if_neg e] at h ⊢
      exact List.mem_cons_of_mem _ (ih h)
/-- the tree tells what the asks are -/
structure Tells (t : HT) (L : Asks) : Prop where
  wf : t.wf
  ok : AsksOk L
  cnt : ∀ f i, t.cnt (levels f) i = hasK L f i
  path : ∀ p i, t.cnt p i ≠ 0 → ∃ f, p = levels f
theorem Tells.paths {t : HT} {L : Asks} (h : Tells t L) : PathsOk t := fun p i hc => by
  obtain ⟨f, rfl⟩ := h.path p i hc
  rw [h.cnt] at hc
  have := (h.ok.filt _ (has_ne hc)).1
  simp only [filtS, Bool.and_eq_true] at this
  exact this.2
/-- who asks for a topic -/
def asksFor (L : Asks) (t : Str) (i : Int) : Prop := ∃ x ∈ L, x.2.1 = i ∧ matchS x.1 t = true
theorem Tells.gath {t : HT} {L : Asks} (h : Tells t L) {s : Str} (hs : rightS s = true) (i : Int) : HT.gath (levels s) t i ↔ asksFor L s i := by
  have hn : [35] ∉ levels s := fun hm => by
    simp only [rightS, Bool.and_eq_true] at hs
    have := List.all_eq_true.1 hs.2 _ hm
    rw [not_name_rest] at this; cases this
  rw [HT.gath_iff (levels s) t i h.paths hn]
  constructor
  · rintro ⟨p, hm, hc⟩
    obtain ⟨f, rfl⟩ := h.path p i hc
    rw [h.cnt] at hc
    have hmem := has_ne hc
    have hf := (h.ok.filt _ hmem).1
    exact ⟨_, hmem, rfl, by simp only [matchS, hf, hs, hm, Bool.and_self]⟩
  · rintro ⟨⟨f, j, n⟩, hmem, rfl, hm⟩
    refine ⟨levels f, ?_, ?_⟩
    · simp only [matchS, Bool.and_eq_true] at hm; exact hm.2
    · rw [h.cnt, has_mem h.ok hmem]
      have := h.ok.pos _ hmem
      simp only at this ⊢
      omega
end Go.Proofs.YtipljeomgdomnaaGreatDoor
/- T3 -/
/-
  Asks that come and go; the entries of a node.
-/
namespace Go.Proofs.YtipljeomgdomnaaGreatDoor
open Go

def addK (L : Asks) (f : Str) (i : Int) : Asks := if hasK L f i = 0 then L ++ [(f, i, 1)] else L.map fun x => if x.1 = f ∧ x.2.1 = i then (f, i, x.2.2 + 1) else x
def lessK (L : Asks) (f : Str) (i : Int) : Asks := if hasK L f i = 1 then L.filter fun x => !decide (x.1 = f ∧ x.2.1 = i) else L.map fun x => if x.1 = f ∧ x.2.1 = i then (f, i, x.2.2 - 1) else x
def leaveK (L : Asks) (i : Int) : Asks := L.filter fun x => !decide (x.2.1 = i)
theorem has_app (L M : Asks) (f : Str) (i : Int) : hasK (L ++ M) f i = if (∃ x ∈ L, x.1 = f ∧ x.2.1 = i) then hasK L f i else hasK M f i := by
  induction L with
  | nil => simp
  | cons x L ih =>
    obtain ⟨g, j, m⟩ := x
    simp only [List.cons_append, hasK]
    by_cases e : g = f ∧ j = i
    · rw [if_pos e, if_pos ⟨_, List.mem_cons_self, e.1, e.2⟩, if_pos e]
    · rw [if_neg e, if_neg e, ih]
      by_cases e2 : ∃ x ∈ L, x.1 = f ∧ x.2.1 = i
      · obtain ⟨x, h1, h2⟩ := e2
        rw [if_pos ⟨x, h1, h2⟩, if_pos ⟨x, List.mem_cons_of_mem _ h1, h2⟩]
      · rw [if_neg e2, if_neg]
        rintro ⟨x, h1, h2⟩
        rcases List.mem_cons.1 h1 with rfl | h1
        · exact e h2
        · exact e2 ⟨x, h1, h2⟩
theorem has_zero {L : Asks} (h : AsksOk L) {f : Str} {i : Int} (hz : hasK L f i = 0) : ¬ ∃ x ∈ L, x.1 = f ∧ x.2.1 = i := by
  rintro ⟨⟨g, j, n⟩, hm, rfl, rfl⟩
  rw [has_mem h hm] at hz
  have := h.pos _ hm
  simp only at this; omega
theorem has_none {L : Asks} {f : Str} {i : Int} (h : ¬ ∃ x ∈ L, x.1 = f ∧ x.2.1 = i) : hasK L f i = 0 := by
  induction L with
  | nil => rfl
  | cons x L ih =>
    obtain ⟨g, j, m⟩ := x
    have e : ¬ (g = f ∧ j = i) := fun e => h ⟨_, List.mem_cons_self, e.1, e.2⟩
    simp only [hasK, if_neg e]
    exact ih fun ⟨x, h1, h2⟩ => h ⟨x, List.mem_cons_of_mem _ h1, h2⟩
theorem has_map (L : Asks) (f : Str) (i : Int) (c : Int → Int) (g : Str) (j : Int) :
    hasK (L.map fun x => if x.1 = f ∧ x.2.1 = i then (f, i, c x.2.2) else x) g j = if (g = f ∧ j = i) ∧ (∃ x ∈ L, x.1 = f ∧ x.2.1 = i) then c (hasK L f i) else hasK L g j := by
  induction L with
  | nil => simp [hasK]
  | cons x L ih =>
    obtain ⟨a, b, m⟩ := x
    simp only [List.map_cons]
    by_cases e : a = f ∧ b = i
    · obtain ⟨rfl, rfl⟩ := e
      simp only [and_self, if_true, hasK]
      by_cases e2 : a = g ∧ b = j
      · obtain ⟨rfl, rfl⟩ := e2
        simp
      · have e3 : ¬ (g = a ∧ j = b) := fun ⟨h1, h2⟩ => e2 ⟨h1.symm, h2.symm⟩
        rw [if_neg e2, ih]
        simp [e3, e2]
    · simp only [if_neg e, hasK]
      by_cases e2 : a = g ∧ b = j
      · obtain ⟨rfl, rfl⟩ := e2
        simp [e]
      · rw [if_neg e2, if_neg e2, ih]
        by_cases e3 : g = f ∧ j = i
        · simp only [e3, true_and]
          have : (∃ x ∈ (a, b, m) :: L, x.1 = f ∧ x.2.1 = i) ↔ ∃ x ∈ L, x.1 = f ∧ x.2.1 = i := by
            constructor
            · rintro ⟨x, h1, h2⟩
              rcases List.mem_cons.1 h1 with rfl | h1
              · exact absurd h2 e
              · exact ⟨x, h1, h2⟩
            · rintro ⟨x, h1, h2⟩; exact ⟨x, List.mem_cons_of_mem _ h1, h2⟩
          simp only [this, and_self, true_and]
        · simp [e3]
theorem has_filter (L : Asks) (p : Str → Int → Bool) (f : Str) (i : Int) : hasK (L.filter fun x => p x.1 x.2.1) f i = if p f i = true then hasK L f i else 0 := by
  induction L with
  | nil => simp [hasK]
  | cons x L ih =>
    obtain ⟨g, j, n⟩ := x
    simp only [List.filter_cons]
    by_cases hp : p g j = true
    · simp only [hp, if_true, hasK, ih]
      by_cases e : g = f ∧ j = i
      · obtain ⟨rfl, rfl⟩ := e; simp [hp]
      · simp [e]
    · simp only [hp, Bool.false_eq_true, if_false, ih, hasK]
      by_cases e : g = f ∧ j = i
      · obtain ⟨rfl, rfl⟩ := e; simp [hp]
      · simp [e]
theorem has_add {L : Asks} (h : AsksOk L) (f : Str) (i : Int) (g : Str) (j : Int) : hasK (addK L f i) g j = if g = f ∧ j = i then hasK L f i + 1 else hasK L g j := by
  unfold addK
  by_cases hz : hasK L f i = 0
  · rw [if_pos hz, has_app]
    by_cases e : g = f ∧ j = i
    · obtain ⟨rfl, rfl⟩ := e
      rw [if_neg (has_zero h hz)]
      simp [hasK, hz]
    · rw [if_neg e]
      by_cases e2 : ∃ x ∈ L, x.1 = g ∧ x.2.1 = j
      · rw [if_pos e2]
      · have e3 : ¬ (f = g ∧ i = j) := fun ⟨h1, h2⟩ => e ⟨h1.symm, h2.symm⟩
        rw [if_neg e2]
        simp [hasK, e3, has_none e2]
  · rw [if_neg hz, has_map L f i (· + 1)]
    have : ∃ x ∈ L, x.1 = f ∧ x.2.1 = i := ⟨_, has_ne hz, rfl, rfl⟩
    simp [this]
theorem has_less {L : Asks} (h : AsksOk L) (f : Str) (i : Int) (hp : 0 < hasK L f i) (g : Str) (j : Int) : hasK (lessK L f i) g j = if g = f ∧ j = i then hasK L f i - 1 else hasK L g j := by
  unfold lessK
  by_cases h1 : hasK L f i = 1
  · rw [if_pos h1, has_filter L (fun a b => !decide (a = f ∧ b = i))]
    by_cases e : g = f ∧ j = i
    · obtain ⟨rfl, rfl⟩ := e; simp [h1]
    · simp [e]
  · rw [if_neg h1, has_map L f i (· - 1)]
    have : ∃ x ∈ L, x.1 = f ∧ x.2.1 = i := ⟨_, has_ne (f := f) (i := i) (by omega), rfl, rfl⟩
    simp [this]
theorem has_leave (L : Asks) (i : Int) (g : Str) (j : Int) : hasK (leaveK L i) g j = if j = i then 0 else hasK L g j := by
  unfold leaveK
  rw [has_filter L (fun _ b => !decide (b = i))]
  by_cases e : j = i <;> simp [e]
theorem AsksOk.nil : AsksOk [] := ⟨by simp, by simp, by simp⟩
theorem AsksOk.filter {L : Asks} (h : AsksOk L) (p : Str × Int × Int → Bool) : AsksOk (L.filter p) :=
  ⟨h.keys.sublist (List.Sublist.map _ List.filter_sublist), fun x hx => h.pos x (List.mem_filter.1 hx).1, fun x hx => h.filt x (List.mem_filter.1 hx).1⟩
theorem map_keys (L : Asks) (f : Str) (i : Int) (c : Int → Int) : ((L.map fun x => if x.1 = f ∧ x.2.1 = i then (f, i, c x.2.2) else x).map fun x => (x.1, x.2.1)) = L.map fun x => (x.1, x.2.1) := by
  rw [List.map_map]
  refine List.map_congr_left fun x _ => ?_
  simp only [Function.comp]
  split
  · rename_i e; rw [e.1, e.2]
  · rfl
theorem AsksOk.add {L : Asks} (h : AsksOk L) {f : Str} {i : Int} (hf : filtS f = true) (hi : 0 ≤ i) : AsksOk (addK L f i) := by
  unfold addK
  by_cases hz : hasK L f i = 0
  · rw [if_pos hz]
    refine ⟨?_, fun x hx => ?_, fun x hx => ?_⟩
    · rw [List.map_append, List.nodup_append]
      refine ⟨h.keys, by simp, fun a ha b hb => ?_⟩
      simp only [List.map_cons, List.map_nil, List.mem_singleton] at hb
      subst hb
      rintro rfl
      obtain ⟨x, hx, e⟩ := List.mem_map.1 ha
      simp only [Prod.mk.injEq] at e
      exact has_zero h hz ⟨x, hx, e.1, e.2⟩
    · rcases List.mem_append.1 hx with hx | hx
      · exact h.pos x hx
      · simp at hx; subst hx; simp
    · rcases List.mem_append.1 hx with hx | hx
      · exact h.filt x hx
      · simp at hx; subst hx; exact ⟨hf, hi⟩
  · rw [if_neg hz]
    refine ⟨by rw [map_keys L f i (· + 1)]; exact h.keys, fun x hx => ?_, fun x hx => ?_⟩
    · obtain ⟨y, hy, rfl⟩ := List.mem_map.1 hx
      have := h.pos y hy
      split
      · simp only; omega
      · exact this
    · obtain ⟨y, hy, rfl⟩ := List.mem_map.1 hx
      split
      · exact ⟨hf, hi⟩
      · exact h.filt y hy
theorem AsksOk.less {L : Asks} (h : AsksOk L) {f : Str} {i : Int} (hf : filtS f = true) (hi : 0 ≤ i) : AsksOk (lessK L f i) := by
  unfold lessK
  by_cases h1 : hasK L f i = 1
  · rw [if_pos h1]; exact h.filter _
  · rw [if_neg h1]
    refine ⟨by rw [map_keys L f i (· - 1)]; exact h.keys, fun x hx => ?_, fun x hx => ?_⟩
    · obtain ⟨y, hy, rfl⟩ := List.mem_map.1 hx
      have hp := h.pos y hy
      split
      · rename_i e
        obtain ⟨a, b, n⟩ := y
        have := has_mem h hy
        simp only at e hp ⊢
        rw [e.1, e.2] at this
        omega
      · exact hp
    · obtain ⟨y, hy, rfl⟩ := List.mem_map.1 hx
      split
      · exact ⟨hf, hi⟩
      · exact h.filt y hy
end Go.Proofs.YtipljeomgdomnaaGreatDoor
/- T4 -/
/-
  A node's entries; what the tree tells behind a change.
-/
namespace Go.Proofs.YtipljeomgdomnaaGreatDoor
open Go

def setA : AL → Int → Int → AL
  | [], _, _ => []
  | x :: A, i, v => if i = x.1 then (i, v, x.2.2) :: A else x :: setA A i v
def putA (A : AL) (ca : Nat) (i v : Int) : AL := if i ∈ A.map (·.1) then setA A i v else A ++ [(i, v, ca)]
def delA : AL → Int → AL
  | [], _ => []
  | x :: A, i => if i = x.1 then A else x :: delA A i
theorem aml_get (A : AL) (i : Int) : getM (aml A) i = if i ∈ A.map (·.1) then some (.int .i64 (getA A i)) else none := by
  induction A with
  | nil => simp [aml, getM]
  | cons x A ih =>
    obtain ⟨k, n, b⟩ := x
    simp only [aml, List.map_cons, getM, getA, List.mem_cons] at ih ⊢
    by_cases h : i = k
    · simp [h]
    · simp only [h, if_false, false_or]; exact ih
theorem getA_none {A : AL} {i : Int} (h : i ∉ A.map (·.1)) : getA A i = 0 := by
  induction A with
  | nil => rfl
  | cons x A ih =>
    obtain ⟨k, n, b⟩ := x
    simp only [List.map_cons, List.mem_cons, not_or] at h
    simp only [getA, if_neg h.1]
    exact ih h.2
/-- reading an entry, or nothing -/
theorem aml_read (A : AL) (i : Int) : (getM (aml A) i).getD (.int .i64 0) = .int .i64 (getA A i) := by
  rw [aml_get]
  by_cases h : i ∈ A.map (·.1)
  · rw [if_pos h]; rfl
  · rw [if_neg h, getA_none h]; rfl
theorem aml_set (A : AL) (i v : Int) : aml (setA A i v) = setM (aml A) i (.int .i64 v) := by
  induction A with
  | nil => rfl
  | cons x A ih =>
    obtain ⟨k, n, b⟩ := x
    simp only [setA, aml, List.map_cons, setM] at ih ⊢
    by_cases h : i = k
    · simp [h]
    · simp [h, ih]
theorem aml_put (A : AL) (ca : Nat) (i v : Int) : aml (putA A ca i v) = putM (aml A) ca i (.int .i64 v) := by
  unfold putA putM
  rw [aml_get]
  by_cases h : i ∈ A.map (·.1)
  · simp only [h, if_true, Option.isSome_some]; exact aml_set A i v
  · simp only [h, if_false, Option.isSome_none, Bool.false_eq_true]; simp [aml]
theorem aml_clk (A : AL) (ca : Nat) (i : Int) : clkM (aml A) ca i = if i ∈ A.map (·.1) then ca else ca + 1 := by
  unfold clkM
  rw [aml_get]
  by_cases h : i ∈ A.map (·.1) <;> simp [h]
theorem aml_del (A : AL) (i : Int) : aml (delA A i) = delM (aml A) i := by
  induction A with
  | nil => rfl
  | cons x A ih =>
    obtain ⟨k, n, b⟩ := x
    simp only [delA, aml, List.map_cons, delM] at ih ⊢
    by_cases h : i = k
    · simp [h]
    · simp [h, ih]
theorem getA_set {A : AL} {i v : Int} (h : i ∈ A.map (·.1)) (j : Int) : getA (setA A i v) j = if j = i then v else getA A j := by
  induction A with
  | nil => simp at h
  | cons x A ih =>
    obtain ⟨k, n, b⟩ := x
    simp only [List.map_cons, List.mem_cons] at h
    simp only [setA]
    by_cases e : i = k
    · subst e
      simp only [if_true, getA]
      by_cases e2 : j = i <;> simp [e2]
    · simp only [if_neg e, getA, ih (h.resolve_left e)]
      by_cases e2 : j = k
      · have : j ≠ i := fun e3 => e (e3 ▸ e2)
        simp [e2]; intro e3; exact absurd e3.symm e
      · simp [e2]
theorem getA_app (A : AL) (i v : Int) (b : Nat) (h : i ∉ A.map (·.1)) (j : Int) : getA (A ++ [(i, v, b)]) j = if j = i then v else getA A j := by
  induction A with
  | nil => simp [getA]
  | cons x A ih =>
    obtain ⟨k, n, c⟩ := x
    simp only [List.map_cons, List.mem_cons, not_or] at h
    simp only [List.cons_append, getA, ih h.2]
    by_cases e2 : j = k
    · simp [e2]; intro e3; exact absurd e3.symm h.1
    · simp [e2]
theorem getA_put (A : AL) (ca : Nat) (i v : Int) (j : Int) : getA (putA A ca i v) j = if j = i then v else getA A j := by
  unfold putA
  by_cases h : i ∈ A.map (·.1)
  · rw [if_pos h]; exact getA_set h j
  · rw [if_neg h]; exact getA_app A i v ca h j
theorem delA_keys : ∀ (A : AL) (i : Int), (A.map (·.1)).Nodup → i ∉ (delA A i).map (·.1)
  | [], i, _ => by simp [delA]
  | x :: A, i, h => by
    simp only [List.map_cons, List.nodup_cons] at h
    simp only [delA]
    split
    · rename_i e; subst e; exact h.1
    · rename_i e
      simp only [List.map_cons, List.mem_cons, not_or]
      exact ⟨e, delA_keys A i h.2⟩
theorem getA_del {A : AL} (h : (A.map (·.1)).Nodup) (i j : Int) : getA (delA A i) j = if j = i then 0 else getA A j := by
  by_cases e : j = i
  · subst e; rw [if_pos rfl, getA_none (delA_keys A j h)]
  · rw [if_neg e]
    clear h
    induction A with
    | nil => rfl
    | cons x A ih =>
      obtain ⟨k, n, b⟩ := x
      simp only [delA]
      split
      · rename_i e2; subst e2; simp [getA, e]
      · simp only [getA, ih]
theorem setA_pos {A : AL} {i v : Int} (h : ∀ x ∈ A, 0 < x.2.1) (hv : 0 < v) : ∀ x ∈ setA A i v, 0 < x.2.1 := by
  induction A with
  | nil => simp [setA]
  | cons y A ih =>
    intro x hx
    simp only [setA] at hx
    split at hx
    · rcases List.mem_cons.1 hx with rfl | hx
      · exact hv
      · exact h x (List.mem_cons_of_mem _ hx)
    · rcases List.mem_cons.1 hx with rfl | hx
      · exact h _ List.mem_cons_self
      · exact ih (fun z hz => h z (List.mem_cons_of_mem _ hz)) x hx
theorem putA_pos {A : AL} {ca : Nat} {i v : Int} (h : ∀ x ∈ A, 0 < x.2.1) (hv : 0 < v) : ∀ x ∈ putA A ca i v, 0 < x.2.1 := by
  unfold putA
  split
  · exact setA_pos h hv
  · intro x hx
    rcases List.mem_append.1 hx with hx | hx
    · exact h x hx
    · simp at hx; subst hx; exact hv
theorem delA_sub : ∀ (A : AL) (i : Int), (delA A i).Sublist A
  | [], _ => by simp [delA]
  | x :: A, i => by
    simp only [delA]
    split
    · exact List.sublist_cons_self _ _
    · exact (delA_sub A i).cons_cons x
theorem aml_keys (A : AL) : (aml A).map (·.1) = A.map (·.1) := by simp [aml]
theorem getA_pos {A : AL} (h : ∀ x ∈ A, 0 < x.2.1) (i : Int) : (i ∈ A.map (·.1) ↔ getA A i ≠ 0) ∧ 0 ≤ getA A i := by
  induction A with
  | nil => simp [getA]
  | cons x A ih =>
    obtain ⟨k, n, b⟩ := x
    have ih := ih fun z hz => h z (List.mem_cons_of_mem _ hz)
    have hk := h _ List.mem_cons_self
    simp only at hk
    simp only [List.map_cons, List.mem_cons, getA]
    by_cases e : i = k
    · simp [e]; omega
    · simp only [e, false_or, if_false]; exact ih

/-- an entry is changed at a filter's node -/
theorem Tells.upd {t : HT} {L L' : Asks} (h : Tells t L) {f : Str} {b mk ma ck ca ca' : Nat} {A A' : AL} {K : HF} (hs : HT.sub (levels f) t = some (.nd b mk ma ck ca A K))
    (hw : WfM (aml A') ca') (hp : ∀ x ∈ A', 0 < x.2.1) (hL : AsksOk L') (hc : ∀ j, getA A' j = hasK L' f j) (ho : ∀ g j, g ≠ f → hasK L' g j = hasK L g j) :
    Tells (HT.put (levels f) t (.nd b mk ma ck ca' A' K)) L' := by
  have hsw := HT.sub_wf hs h.wf
  simp only [HT.wf] at hsw
  have key : ∀ q i, (HT.put (levels f) t (.nd b mk ma ck ca' A' K)).cnt q i = if q = levels f then getA A' i else t.cnt q i := fun q i => by
    have := HT.put_same (u := .nd b mk ma ck ca' A' K) hs q i (fun r i hr => by
      cases r with
      | nil => exact absurd rfl hr
      | cons x r => rfl)
    exact this
  refine ⟨HT.put_wf hs rfl h.wf ⟨hsw.1, hw, hp, hsw.2.2.2⟩, hL, fun g j => ?_, fun p i hne => ?_⟩
  · rw [key]
    by_cases e : g = f
    · subst e; rw [if_pos rfl, hc]
    · rw [if_neg (fun e2 => e (levels_inj e2)), h.cnt, ho g j e]
  · rw [key] at hne
    by_cases e : p = levels f
    · exact ⟨f, e⟩
    · rw [if_neg e] at hne; exact h.path p i hne
/-- a new child without anything -/
theorem HT.grow {t : HT} {pre : List Str} {x : Str} {b mk ma ck ca b2 mk2 ma2 c2 c3 : Nat} {A : AL} {K : HF} (hw : t.wf) (hs : HT.sub pre t = some (.nd b mk ma ck ca A K)) (hx : K.get x = none) :
    (HT.put pre t (.nd b mk ma (ck + 1) ca A (K.push x ck (.nd b2 mk2 ma2 c2 c3 [] .nil)))).wf ∧ (∀ q i, (HT.put pre t (.nd b mk ma (ck + 1) ca A (K.push x ck (.nd b2 mk2 ma2 c2 c3 [] .nil)))).cnt q i = t.cnt q i) ∧
    HT.sub (pre ++ [x]) (HT.put pre t (.nd b mk ma (ck + 1) ca A (K.push x ck (.nd b2 mk2 ma2 c2 c3 [] .nil)))) = some (.nd b2 mk2 ma2 c2 c3 [] .nil) := by
  have hsw := HT.sub_wf hs hw
  simp only [HT.wf] at hsw
  have hg : getM K.ml x = none := by rw [HF.get_ml, hx]; rfl
  have hput : WfM (K.push x ck (.nd b2 mk2 ma2 c2 c3 [] .nil)).ml (ck + 1) := by
    have := hsw.1.put x (HT.ptr (.nd b2 mk2 ma2 c2 c3 [] .nil))
    simp only [putM, clkM, hg, Option.isSome_none, Bool.false_eq_true, if_false] at this
    rw [HF.push_ml]; exact this
  refine ⟨HT.put_wf hs rfl hw ⟨hput, hsw.2.1, hsw.2.2.1, HF.push_wf hsw.2.2.2 ⟨WfM.nil, WfM.nil, by simp, trivial⟩⟩, fun q i => ?_, ?_⟩
  · rw [HT.put_cnt q i hs]
    cases hq : stripP pre q with
    | none => rfl
    | some r =>
      have e := stripP_some hq
      subst e
      rw [HT.cnt_sub pre r t i, hs]
      cases r with
      | nil => rfl
      | cons y r =>
        simp only [HT.cnt]
        rw [HF.cnt_push K x y ck _ r i hx]
        by_cases e : y = x
        · subst e
          rw [if_pos rfl, HF.cnt_get, hx]
          cases r <;> simp [HT.cnt, getA, HF.cnt]
        · rw [if_neg e]
  · rw [HT.sub_app, HT.put_sub _ hs]
    have : ∀ K : HF, K.get x = none → (K.push x ck (.nd b2 mk2 ma2 c2 c3 [] .nil)).get x = some (.nd b2 mk2 ma2 c2 c3 [] .nil) := by
      intro K
      induction K using HF.rec (motive_1 := fun _ => True) with
      | nd => trivial
      | nil => intro _; simp [HF.push, HF.get]
      | cons k bn t r _ ih =>
        intro h
        simp only [HF.get] at h
        by_cases e : x = k
        · rw [if_pos e] at h; cases h
        · rw [if_neg e] at h; simp [HF.push, HF.get, e, ih h]
    simp only [Option.bind_some, HT.sub, this K hx]
theorem Tells.same {t t' : HT} {L : Asks} (h : Tells t L) (hw : t'.wf) (hc : ∀ q i, t'.cnt q i = t.cnt q i) : Tells t' L :=
  ⟨hw, h.ok, fun f i => by rw [hc]; exact h.cnt f i, fun p i hne => by rw [hc] at hne; exact h.path p i hne⟩
end Go.Proofs.YtipljeomgdomnaaGreatDoor
/- T5 -/
/-
  The paths of a tree at which it is so; the rows that are told.
-/
namespace Go.Proofs.YtipljeomgdomnaaGreatDoor
open Go

def HT.at : HT → AL | .nd _ _ _ _ _ A _ => A
mutual
def HT.paths (so : AL → Bool) : HT → List (List Str)
  | .nd _ _ _ _ _ A K => (if so A = true then [[]] else []) ++ K.paths so
def HF.paths (so : AL → Bool) : HF → List (List Str)
  | .nil => []
  | .cons k _ t r => (t.paths so).map (k :: ·) ++ r.paths so
end
theorem HF.paths_key (so : AL → Bool) : ∀ (K : HF) (p : List Str), p ∈ K.paths so → ∃ x q, p = x :: q ∧ x ∈ K.ml.map (·.1)
  | .nil, p, h => by simp [HF.paths] at h
  | .cons k bn t r, p, h => by
    simp only [HF.paths, List.mem_append, List.mem_map] at h
    rcases h with ⟨q, -, rfl⟩ | h
    · exact ⟨k, q, rfl, by simp [HF.ml]⟩
    · obtain ⟨x, q, rfl, hx⟩ := HF.paths_key so r p h
      exact ⟨x, q, rfl, by simp only [HF.ml, List.map_cons, List.mem_cons]; exact .inr hx⟩
theorem HF.get_keys : ∀ (K : HF) (x : Str), K.get x ≠ none ↔ x ∈ K.ml.map (·.1)
  | .nil, x => by simp [HF.get, HF.ml]
  | .cons k bn t r, x => by
    simp only [HF.get, HF.ml, List.map_cons, List.mem_cons]
    by_cases h : x = k
    · simp [h]
    · simp only [h, if_false, false_or]; exact HF.get_keys r x
mutual
theorem HT.mem_paths (so : AL → Bool) : ∀ (t : HT), t.wf → ∀ p, p ∈ t.paths so ↔ ∃ s, HT.sub p t = some s ∧ so s.at = true
  | .nd b mk ma ck ca A K, hw, p => by
    simp only [HT.wf] at hw
    have hk := HF.mem_paths so K hw.2.2.2 hw.1.keys
    simp only [HT.paths, List.mem_append]
    cases p with
    | nil =>
      have : ([] : List Str) ∉ K.paths so := fun h => by obtain ⟨x, q, e, -⟩ := HF.paths_key so K _ h; cases e
      simp only [this, or_false]
      constructor
      · intro h
        refine ⟨_, rfl, ?_⟩
        by_cases hs : so A = true
        · exact hs
        · rw [if_neg hs] at h; simp at h
      · rintro ⟨s, hs, h⟩
        cases hs
        have h : so A = true := h
        simp [h]
    | cons x q =>
      have h0 : (x :: q) ∉ (if so A = true then [[]] else [] : List (List Str)) := by split <;> simp
      simp only [h0, false_or, hk x q, HT.sub]
      cases K.get x <;> simp
theorem HF.mem_paths (so : AL → Bool) : ∀ (K : HF), K.wf → (K.ml.map (·.1)).Nodup → ∀ x q, (x :: q) ∈ K.paths so ↔ ∃ u, K.get x = some u ∧ ∃ s, HT.sub q u = some s ∧ so s.at = true
  | .nil, _, _, x, q => by simp [HF.paths, HF.get]
  | .cons k bn t r, hw, hn, x, q => by
    simp only [HF.wf] at hw
    simp only [HF.ml, List.map_cons, List.nodup_cons] at hn
    have h1 := HT.mem_paths so t hw.1
    have h2 := HF.mem_paths so r hw.2 hn.2
    simp only [HF.paths, List.mem_append, List.mem_map, HF.get]
    by_cases e : x = k
    · subst e
      have h3 : (x :: q) ∉ r.paths so := fun h => by
        obtain ⟨y, q', e, hy⟩ := HF.paths_key so r _ h
        cases e; exact hn.1 hy
      simp only [h3, or_false, if_true, Option.some.injEq, exists_eq_left']
      rw [← h1 q]
      constructor
      · rintro ⟨p, hp, e⟩; cases e; exact hp
      · intro h; exact ⟨q, h, rfl⟩
    · simp only [if_neg e]
      rw [← h2 x q]
      constructor
      · rintro (⟨p, -, e2⟩ | h)
        · cases e2; exact absurd rfl e
        · exact h
      · exact .inr
end
mutual
theorem HT.paths_nodup (so : AL → Bool) : ∀ (t : HT), t.wf → (t.paths so).Nodup
  | .nd b mk ma ck ca A K, hw => by
    simp only [HT.wf] at hw
    simp only [HT.paths]
    have h1 := HF.paths_nodup so K hw.2.2.2 hw.1.keys
    have h0 : ([] : List Str) ∉ K.paths so := fun h => by obtain ⟨x, q, e, -⟩ := HF.paths_key so K _ h; cases e
    split
    · simp only [List.singleton_append, List.nodup_cons]; exact ⟨h0, h1⟩
    · simpa using h1
theorem HF.paths_nodup (so : AL → Bool) : ∀ (K : HF), K.wf → (K.ml.map (·.1)).Nodup → (K.paths so).Nodup
  | .nil, _, _ => by simp [HF.paths]
  | .cons k bn t r, hw, hn => by
    simp only [HF.wf] at hw
    simp only [HF.ml, List.map_cons, List.nodup_cons] at hn
    simp only [HF.paths]
    rw [List.nodup_append]
    refine ⟨?_, HF.paths_nodup so r hw.2 hn.2, fun a ha b hb => ?_⟩
    · exact List.Pairwise.map _ (fun a b hab e => hab (by cases e; rfl)) (HT.paths_nodup so t hw.1)
    · obtain ⟨q, -, rfl⟩ := List.mem_map.1 ha
      obtain ⟨y, q', rfl, hy⟩ := HF.paths_key so r b hb
      intro e; cases e; exact hn.1 hy
end
theorem HT.cnt_nil (t : HT) (i : Int) : t.cnt [] i = getA t.at i := by cases t; rfl
/-- the rows that the document tells -/
def ofK (L : Asks) (i : Int) : List Str := (L.filter fun x => decide (x.2.1 = i)).map (·.1) |>.foldl insS []
def allK (L : Asks) : List Str := (L.map (·.1)).foldl insS []
theorem mem_ofK {L : Asks} {i : Int} {f : Str} : f ∈ ofK L i ↔ ∃ n, (f, i, n) ∈ L := by
  unfold ofK
  rw [(foldl_ins _ [] List.Pairwise.nil).2]
  simp only [List.not_mem_nil, false_or, List.mem_map, List.mem_filter, decide_eq_true_eq]
  constructor
  · rintro ⟨⟨a, b, n⟩, ⟨h, rfl⟩, rfl⟩; exact ⟨n, h⟩
  · rintro ⟨n, h⟩; exact ⟨_, ⟨h, rfl⟩, rfl⟩
theorem mem_allK {L : Asks} {f : Str} : f ∈ allK L ↔ ∃ i n, (f, i, n) ∈ L := by
  unfold allK
  rw [(foldl_ins _ [] List.Pairwise.nil).2]
  simp only [List.not_mem_nil, false_or, List.mem_map]
  constructor
  · rintro ⟨⟨a, b, n⟩, h, rfl⟩; exact ⟨b, n, h⟩
  · rintro ⟨i, n, h⟩; exact ⟨_, h, rfl⟩
theorem ofK_sorted (L : Asks) (i : Int) : SortedS (ofK L i) := (foldl_ins _ [] List.Pairwise.nil).1
theorem allK_sorted (L : Asks) : SortedS (allK L) := (foldl_ins _ [] List.Pairwise.nil).1
theorem Tells.of_paths {t : HT} {L : Asks} (h : Tells t L) (i : Int) (p : List Str) : p ∈ t.paths (fun A => decide (0 < getA A i)) ↔ ∃ f, p = levels f ∧ f ∈ ofK L i := by
  rw [HT.mem_paths _ t h.wf]
  constructor
  · rintro ⟨s, hs, hp⟩
    have hc := HT.cnt_sub p [] t i
    rw [List.append_nil, hs] at hc
    simp only [HT.cnt_nil] at hc
    have hp : 0 < getA s.at i := by simpa using hp
    obtain ⟨f, rfl⟩ := h.path p i (by omega)
    rw [h.cnt] at hc
    exact ⟨f, rfl, mem_ofK.2 ⟨_, has_ne (f := f) (i := i) (by omega)⟩⟩
  · rintro ⟨f, rfl, hm⟩
    obtain ⟨n, hm⟩ := mem_ofK.1 hm
    have hn := has_mem h.ok hm
    have hpos := h.ok.pos _ hm
    have hc := HT.cnt_sub (levels f) [] t i
    rw [List.append_nil, h.cnt, hn] at hc
    simp only at hpos
    cases hs : HT.sub (levels f) t with
    | none => rw [hs] at hc; simp only at hc; omega
    | some s =>
      rw [hs] at hc
      simp only [HT.cnt_nil] at hc
      exact ⟨s, rfl, by simp; omega⟩
theorem Tells.all_paths {t : HT} {L : Asks} (h : Tells t L) (p : List Str) : p ∈ t.paths (fun A => decide (0 < A.length)) ↔ ∃ f, p = levels f ∧ f ∈ allK L := by
  rw [HT.mem_paths _ t h.wf]
  constructor
  · rintro ⟨s, hs, hp⟩
    have hp : 0 < s.at.length := by simpa using hp
    obtain ⟨x, hx⟩ := List.exists_mem_of_length_pos hp
    have hsw := HT.sub_wf hs h.wf
    have hpos : ∀ x ∈ s.at, 0 < x.2.1 := by cases s; simp only [HT.wf] at hsw; exact hsw.2.2.1
    have hne := (getA_pos hpos x.1).1.1 (List.mem_map.2 ⟨x, hx, rfl⟩)
    have hc := HT.cnt_sub p [] t x.1
    rw [List.append_nil, hs] at hc
    simp only [HT.cnt_nil] at hc
    obtain ⟨f, rfl⟩ := h.path p x.1 (by rw [hc]; exact hne)
    rw [h.cnt] at hc
    exact ⟨f, rfl, mem_allK.2 ⟨_, _, has_ne (f := f) (i := x.1) (by rw [hc]; exact hne)⟩⟩
  · rintro ⟨f, rfl, hm⟩
    obtain ⟨i, n, hm⟩ := mem_allK.1 hm
    have hn := has_mem h.ok hm
    have hpos := h.ok.pos _ hm
    have hc := HT.cnt_sub (levels f) [] t i
    rw [List.append_nil, h.cnt, hn] at hc
    simp only at hpos
    cases hs : HT.sub (levels f) t with
    | none => rw [hs] at hc; simp only at hc; omega
    | some s =>
      rw [hs] at hc
      simp only [HT.cnt_nil] at hc
      refine ⟨s, rfl, ?_⟩
      have : s.at ≠ [] := fun e => by rw [e] at hc; simp [getA] at hc; omega
      simp only [decide_eq_true_eq]
      exact List.length_pos_iff.2 this
end Go.Proofs.YtipljeomgdomnaaGreatDoor
/- T6 -/
/-
  Nodes that are taken away; copies; asks that are dropped or left: what the tree tells behind it.
-/
namespace Go.Proofs.YtipljeomgdomnaaGreatDoor
open Go

theorem HF.cnt_del : ∀ (K : HF) (x y : Str) (p : List Str) (i : Int), (K.ml.map (·.1)).Nodup → (K.del x).cnt y p i = if y = x then 0 else K.cnt y p i
  | .nil, x, y, p, i, _ => by simp [HF.del, HF.cnt]
  | .cons k bn t r, x, y, p, i, h => by
    simp only [HF.ml, List.map_cons, List.nodup_cons] at h
    simp only [HF.del]
    by_cases e : x = k
    · subst e
      rw [if_pos rfl]
      by_cases e2 : y = x
      · subst e2
        rw [if_pos rfl, HF.cnt_get]
        have : r.get y = none := by
          cases hg : r.get y with
          | none => rfl
          | some u => exact absurd ((HF.get_keys r y).1 (by rw [hg]; simp)) h.1
        rw [this]
      · simp [e2, HF.cnt]
    · rw [if_neg e]
      simp only [HF.cnt, HF.cnt_del r x y p i h.2]
      by_cases e2 : y = k
      · have : y ≠ x := fun e3 => e (e3 ▸ e2)
        simp [e2]; intro e3; exact absurd e3.symm e
      · simp [e2]
def HT.kids : HT → HF | .nd _ _ _ _ _ _ K => K
/-- nothing here, nothing below -/
def HT.bare : HT → Bool
  | .nd _ _ _ _ _ A K => A.isEmpty && K.ml.isEmpty
theorem HT.bare_cnt {t : HT} (h : t.bare = true) (p : List Str) (i : Int) : t.cnt p i = 0 := by
  cases t with
  | nd b mk ma ck ca A K =>
    simp only [HT.bare, Bool.and_eq_true, List.isEmpty_iff] at h
    cases p with
    | nil => simp [HT.cnt, h.1, getA]
    | cons x p =>
      cases K with
      | nil => simp [HT.cnt, HF.cnt]
      | cons k bn t r => simp [HF.ml] at h
/-- a child that was changed, and goes, or stays: the same is told -/
theorem HF.set_cnt_same {K : HF} {x : Str} {u u' : HT} (hg : K.get x = some u) (hc : ∀ p i, u'.cnt p i = u.cnt p i) (y : Str) (p : List Str) (i : Int) : (K.set x u').cnt y p i = K.cnt y p i := by
  rw [HF.cnt_set K x y u' p i (by rw [hg]; simp)]
  by_cases e : y = x
  · subst e; rw [if_pos rfl, hc, HF.cnt_get, hg]
  · rw [if_neg e]
theorem HF.del_cnt_same {K : HF} {x : Str} {u : HT} (hn : (K.ml.map (·.1)).Nodup) (hg : K.get x = some u) (hc : ∀ p i, u.cnt p i = 0) (y : Str) (p : List Str) (i : Int) : (K.del x).cnt y p i = K.cnt y p i := by
  rw [HF.cnt_del K x y p i hn]
  by_cases e : y = x
  · subst e; rw [if_pos rfl, HF.cnt_get, hg]; exact (hc p i).symm
  · rw [if_neg e]
theorem AsksOk.leave {L : Asks} (h : AsksOk L) (i : Int) : AsksOk (leaveK L i) := h.filter _
/-- as many asks of one as filters -/
theorem ofK_len {L : Asks} (h : AsksOk L) (i : Int) : (ofK L i).length = (L.filter fun x => decide (x.2.1 = i)).length := by
  have hn : (((L.filter fun x => decide (x.2.1 = i)).map (·.1))).Nodup := by
    have hk := h.keys
    clear h
    induction L with
    | nil => simp
    | cons x L ih =>
      obtain ⟨g, j, n⟩ := x
      simp only [List.map_cons, List.nodup_cons] at hk
      simp only [List.filter_cons]
      split
      · rename_i e
        have ej : j = i := by simpa using e
        simp only [List.map_cons, List.nodup_cons]
        refine ⟨fun hm => ?_, ih hk.2⟩
        obtain ⟨⟨a, b, m⟩, hm2, rfl⟩ := List.mem_map.1 hm
        obtain ⟨hm2, e2⟩ := List.mem_filter.1 hm2
        have e2 : b = i := by simpa using e2
        exact hk.1 (List.mem_map.2 ⟨_, hm2, by simp [ej, e2]⟩)
      · exact ih hk.2
  have key : ∀ (l a : List Str), l.Nodup → (∀ x ∈ l, x ∉ a) → (l.foldl insS a).length = a.length + l.length := by
    intro l
    induction l with
    | nil => intro a _ _; simp
    | cons x l ih =>
      intro a hn ha
      simp only [List.nodup_cons] at hn
      have hins : ∀ (a : List Str), x ∉ a → (insS a x).length = a.length + 1 := by
        intro a
        induction a with
        | nil => intro _; simp [insS]
        | cons y a ih2 =>
          intro h
          simp only [List.mem_cons, not_or] at h
          simp only [insS]
          split
          · simp [ih2 h.2]
          · rw [if_neg (fun e => h.1 e.symm)]; simp
      rw [List.foldl_cons, ih (insS a x) hn.2 (fun z hz hm => by
        rcases mem_insS.1 hm with hm | rfl
        · exact ha z (List.mem_cons_of_mem _ hz) hm
        · exact hn.1 hz), hins a (ha x List.mem_cons_self)]
      simp only [List.length_cons]; omega
  unfold ofK
  rw [key _ [] hn (by simp)]
  simp
theorem leave_len (L : Asks) (i : Int) : L.length - (leaveK L i).length = (L.filter fun x => decide (x.2.1 = i)).length ∧ (leaveK L i).length ≤ L.length := by
  unfold leaveK
  have : ∀ L : Asks, (L.filter fun x => decide (x.2.1 = i)).length + (L.filter fun x => !decide (x.2.1 = i)).length = L.length := by
    intro L
    induction L with
    | nil => rfl
    | cons x L ih =>
      simp only [List.filter_cons]
      by_cases e : x.2.1 = i <;> simp [e] <;> omega
  have := this L
  omega
end Go.Proofs.YtipljeomgdomnaaGreatDoor
/- T7 -/
/-
  Numbers in order, each once: who asks for a topic.
-/
namespace Go.Proofs.YtipljeomgdomnaaGreatDoor
open Go

abbrev Rising (l : List Int) : Prop := l.Pairwise (· < ·)
theorem rising_ext : ∀ {l m : List Int}, Rising l → Rising m → (∀ x, x ∈ l ↔ x ∈ m) → l = m
  | [], [], _, _, _ => rfl
  | [], y :: m, _, _, h => by have := (h y).2 (by simp); simp at this
  | x :: l, [], _, _, h => by have := (h x).1 (by simp); simp at this
  | x :: l, y :: m, h1, h2, h => by
    rw [Rising, List.pairwise_cons] at h1 h2
    have e : x = y := by
      rcases List.mem_cons.1 ((h x).1 (by simp)) with e | hx
      · exact e
      · rcases List.mem_cons.1 ((h y).2 (by simp)) with e | hy
        · exact e.symm
        · have := h1.1 y hy; have := h2.1 x hx; omega
    subst e
    congr 1
    refine rising_ext h1.2 h2.2 fun z => ⟨fun hz => ?_, fun hz => ?_⟩
    · rcases List.mem_cons.1 ((h z).1 (by simp [hz])) with e | h'
      · subst e; have := h1.1 z hz; omega
      · exact h'
    · rcases List.mem_cons.1 ((h z).2 (by simp [hz])) with e | h'
      · subst e; have := h2.1 z hz; omega
      · exact h'
def insI : List Int → Int → List Int
  | [], f => [f]
  | x :: l, f => if x < f then x :: insI l f else if x = f then x :: l else f :: x :: l
theorem mem_insI {l : List Int} {f y : Int} : y ∈ insI l f ↔ y ∈ l ∨ y = f := by
  induction l with
  | nil => simp [insI]
  | cons x l ih =>
    simp only [insI]
    split
    · simp only [List.mem_cons, ih]; rw [or_assoc]
    · split
      · rename_i e; subst e
        simp only [List.mem_cons]
        exact ⟨.inl, fun h => h.elim id .inl⟩
      · simp only [List.mem_cons]
        exact ⟨fun h => h.elim .inr .inl, fun h => h.elim .inr .inl⟩
theorem rising_insI {l : List Int} {f : Int} (h : Rising l) : Rising (insI l f) := by
  induction l with
  | nil => simp [insI]
  | cons x l ih =>
    rw [Rising, List.pairwise_cons] at h
    simp only [insI]
    split
    · rename_i hx
      rw [Rising, List.pairwise_cons]
      refine ⟨fun y hy => ?_, ih h.2⟩
      rcases mem_insI.1 hy with hy | rfl
      · exact h.1 y hy
      · exact hx
    · rename_i hx
      split
      · rw [Rising, List.pairwise_cons]; exact h
      · rename_i hne
        rw [Rising, List.pairwise_cons, List.pairwise_cons]
        refine ⟨fun y hy => ?_, h⟩
        rcases List.mem_cons.1 hy with rfl | hy
        · omega
        · have := h.1 y hy; omega
theorem foldl_insI : ∀ (l a : List Int), Rising a → Rising (l.foldl insI a) ∧ ∀ y, y ∈ l.foldl insI a ↔ y ∈ a ∨ y ∈ l
  | [], a, h => ⟨h, fun y => by simp⟩
  | x :: l, a, h => by
    obtain ⟨h1, h2⟩ := foldl_insI l (insI a x) (rising_insI h)
    refine ⟨h1, fun y => ?_⟩
    rw [List.foldl_cons, h2 y, mem_insI, List.mem_cons, or_assoc]
/-- who asks for a topic, in order -/
def idsK (L : Asks) (t : Str) : List Int := ((L.filter fun x => matchS x.1 t).map (·.2.1)).foldl insI []
theorem idsK_rising (L : Asks) (t : Str) : Rising (idsK L t) := (foldl_insI _ [] List.Pairwise.nil).1
theorem mem_idsK {L : Asks} {t : Str} {i : Int} : i ∈ idsK L t ↔ asksFor L t i := by
  unfold idsK asksFor
  rw [(foldl_insI _ [] List.Pairwise.nil).2]
  simp only [List.not_mem_nil, false_or, List.mem_map, List.mem_filter]
  constructor
  · rintro ⟨x, ⟨h1, h2⟩, e⟩; exact ⟨x, h1, e, h2⟩
  · rintro ⟨x, h1, e, h2⟩; exact ⟨x, ⟨h1, h2⟩, e⟩
/-- numbers sorted, of which each stands once: they rise -/
theorem sorted_rising {l : List Int} (h : l.Nodup) : Rising (l.mergeSort fun x y => decide (x ≤ y)) := by
  have h1 : (l.mergeSort fun x y => decide (x ≤ y)).Pairwise (fun x y => decide (x ≤ y) = true) :=
    List.pairwise_mergeSort (fun a b c h1 h2 => by simp at *; omega) (fun a b => by simp; omega) l
  have h2 : (l.mergeSort fun x y => decide (x ≤ y)).Nodup := (List.mergeSort_perm _ _).nodup_iff.2 h
  exact (List.Pairwise.and h1 h2).imp fun {a b} ⟨h3, h4⟩ => by simp at h3; omega
/-- as the program gathers them -/
theorem Tells.ids {t : HT} {L : Asks} (h : Tells t L) {s : Str} (hs : rightS s = true) {l : List Int} (hn : l.Nodup) (hm : ∀ i, i ∈ l ↔ HT.gath (levels s) t i) : (l.mergeSort fun x y => decide (x ≤ y)) = idsK L s :=
  rising_ext (sorted_rising hn) (idsK_rising L s) fun i => by
    rw [(List.mergeSort_perm _ _).mem_iff, hm, h.gath hs, mem_idsK]
theorem idsK_none {L : Asks} {s : Str} (hs : rightS s = false) : idsK L s = [] := by
  rw [List.eq_nil_iff_forall_not_mem]
  intro i hi
  obtain ⟨x, -, -, hm⟩ := mem_idsK.1 hi
  rw [(matchS_filt hm).2] at hs; cases hs
end Go.Proofs.YtipljeomgdomnaaGreatDoor
/- T8 -/
/-
  The tree's depth; entries of a node's list and its children.
-/
namespace Go.Proofs.YtipljeomgdomnaaGreatDoor
open Go

mutual
def HT.dep : HT → Nat | .nd _ _ _ _ _ _ K => K.dep
def HF.dep : HF → Nat
  | .nil => 0
  | .cons _ _ t r => max (t.dep + 1) r.dep
end
theorem HF.dep_get : ∀ {K : HF} {x : Str} {t : HT}, K.get x = some t → t.dep + 1 ≤ K.dep
  | .nil, _, _, h => by cases h
  | .cons k bn t r, x, t', h => by
    simp only [HF.get] at h
    simp only [HF.dep]
    split at h
    · cases h; omega
    · have := HF.dep_get h; omega
theorem HF.dep_set : ∀ {K : HF} {x : Str} {u : HT} {n : Nat}, K.dep ≤ n → u.dep + 1 ≤ n → (K.set x u).dep ≤ n
  | .nil, _, _, _, _, _ => by simp [HF.set, HF.dep]
  | .cons k bn t r, x, u, n, h, hu => by
    simp only [HF.dep] at h
    simp only [HF.set]
    split
    · simp only [HF.dep]; omega
    · simp only [HF.dep]
      have := HF.dep_set (K := r) (x := x) (u := u) (n := n) (by omega) hu
      omega
theorem HF.dep_push : ∀ {K : HF} {x : Str} {m : Nat} {u : HT} {n : Nat}, K.dep ≤ n → u.dep + 1 ≤ n → (K.push x m u).dep ≤ n
  | .nil, _, _, _, _, _, hu => by simp only [HF.push, HF.dep]; omega
  | .cons k bn t r, x, m, u, n, h, hu => by
    simp only [HF.dep] at h
    simp only [HF.push, HF.dep]
    have := HF.dep_push (K := r) (x := x) (m := m) (u := u) (n := n) (by omega) hu
    omega
theorem HF.dep_del : ∀ {K : HF} {x : Str} {n : Nat}, K.dep ≤ n → (K.del x).dep ≤ n
  | .nil, _, _, h => by simpa [HF.del] using h
  | .cons k bn t r, x, n, h => by
    simp only [HF.dep] at h
    simp only [HF.del]
    split
    · omega
    · simp only [HF.dep]
      have := HF.dep_del (K := r) (x := x) (n := n) (by omega)
      omega
theorem HT.dep_put : ∀ {p : List Str} {t s u : HT} {n : Nat}, HT.sub p t = some s → t.dep ≤ n → u.dep + p.length ≤ n → (HT.put p t u).dep ≤ n
  | [], t, s, u, n, h, _, hu => by simpa [HT.put] using hu
  | x :: p, .nd b mk ma ck ca A K, s, u, n, h, ht, hu => by
    simp only [HT.sub] at h
    simp only [HT.put]
    cases hg : K.get x with
    | none => rw [hg] at h; cases h
    | some w =>
      rw [hg] at h
      simp only [HT.dep] at ht ⊢
      have h1 := HF.dep_get hg
      have h2 := HT.dep_put (u := u) (n := n - 1) h (by omega) (by simp at hu; omega)
      exact HF.dep_set ht (by simp at hu; omega)
/-- an entry of the list is a child -/
theorem HF.ml_get : ∀ {K : HF} {ck : Nat}, WfM K.ml ck → ∀ {y : Str × Value × Nat}, y ∈ K.ml → ∃ u, K.get y.1 = some u ∧ y.2.1 = u.ptr := fun {K ck} hw {y} hy => by
  obtain ⟨k, v, bn⟩ := y
  have h := get_of_mem hw.keys hy
  rw [HF.get_ml] at h
  cases hg : K.get k with
  | none => rw [hg] at h; cases h
  | some u => rw [hg] at h; cases h; exact ⟨u, rfl, rfl⟩
theorem HF.get_kid {K : HF} {k x : Str} {w u : HT} (hg : K.get k = some w) : (K.set k u).get x = if x = k then some u else K.get x := by
  induction K using HF.rec (motive_1 := fun _ => True) with
  | nd => trivial
  | nil => cases hg
  | cons a bn t r _ ih =>
    simp only [HF.get] at hg
    simp only [HF.set]
    by_cases e : k = a
    · subst e
      rw [if_pos rfl]
      simp only [HF.get]
      by_cases e2 : x = k <;> simp [e2]
    · rw [if_neg e] at hg ⊢
      simp only [HF.get, ih hg]
      by_cases e2 : x = a
      · have : x ≠ k := fun e3 => e (e3 ▸ e2)
        simp [e2]; intro e3; exact absurd e3.symm e
      · simp [e2]
theorem HF.get_del {K : HF} {k x : Str} (hn : (K.ml.map (·.1)).Nodup) : (K.del k).get x = if x = k then none else K.get x := by
  induction K using HF.rec (motive_1 := fun _ => True) with
  | nd => trivial
  | nil => simp [HF.del, HF.get]
  | cons a bn t r _ ih =>
    simp only [HF.ml, List.map_cons, List.nodup_cons] at hn
    simp only [HF.del]
    by_cases e : k = a
    · subst e
      rw [if_pos rfl]
      simp only [HF.get]
      by_cases e2 : x = k
      · subst e2
        rw [if_pos rfl]
        cases hg : r.get x with
        | none => rfl
        | some u => exact absurd ((HF.get_keys r x).1 (by rw [hg]; simp)) hn.1
      · simp [e2]
    · rw [if_neg e]
      simp only [HF.get, ih hn.2]
      by_cases e2 : x = a
      · have : x ≠ k := fun e3 => e (e3 ▸ e2)
        simp [e2]; intro e3; exact absurd e3.symm e
      · simp [e2]
theorem HF.get_push {K : HF} {k x : Str} {n : Nat} {u : HT} (hg : K.get k = none) : (K.push k n u).get x = if x = k then some u else K.get x := by
  induction K using HF.rec (motive_1 := fun _ => True) with
  | nd => trivial
  | nil => simp [HF.push, HF.get]
  | cons a bn t r _ ih =>
    simp only [HF.get] at hg
    have e : k ≠ a := fun e => by rw [if_pos e] at hg; cases hg
    rw [if_neg e] at hg
    simp only [HF.push, HF.get, ih hg]
    by_cases e2 : x = a
    · have : x ≠ k := fun e3 => e (e3 ▸ e2)
      simp [e2]; intro e3; exact absurd e3.symm e
    · simp [e2]
theorem HF.mem_ml {K : HF} {k : Str} {v : Value} {bn : Nat} (h : (k, v, bn) ∈ K.ml) : k ∈ K.ml.map (·.1) := List.mem_map.2 ⟨_, h, rfl⟩
theorem HF.born_key {K : HF} {ck : Nat} (hw : WfM K.ml ck) {y z : Str × Value × Nat} (hy : y ∈ K.ml) (hz : z ∈ K.ml) (e : y.1 = z.1) : y = z := by
  have h1 := get_of_mem hw.keys (k := y.1) (v := y.2.1) (b := y.2.2) hy
  have key : ∀ (L : ML Str), (L.map (·.1)).Nodup → y ∈ L → z ∈ L → y = z := by
    intro L hn hy hz
    induction L with
    | nil => cases hy
    | cons a L ih =>
      simp only [List.map_cons, List.nodup_cons] at hn
      rcases List.mem_cons.1 hy with e1 | h1 <;> rcases List.mem_cons.1 hz with e2 | h2
      · rw [e1, e2]
      · exact absurd (List.mem_map.2 ⟨z, h2, by rw [← e, e1]⟩ : a.1 ∈ L.map (·.1)) hn.1
      · exact absurd (List.mem_map.2 ⟨y, h1, by rw [e, e2]⟩ : a.1 ∈ L.map (·.1)) hn.1
      · exact ih hn.2 h1 h2
  exact key _ hw.keys hy hz
theorem HF.cnt_none {K : HF} {x : Str} (h : K.get x = none) (p : List Str) (i : Int) : K.cnt x p i = 0 := by rw [HF.cnt_get, h]
/-- no paths are longer than the tree is deep -/
theorem HT.sub_dep : ∀ {p : List Str} {t s : HT}, HT.sub p t = some s → p.length + s.dep ≤ t.dep
  | [], t, s, h => by cases h; simp
  | x :: p, .nd b mk ma ck ca A K, s, h => by
    simp only [HT.sub] at h
    cases hg : K.get x with
    | none => rw [hg] at h; cases h
    | some u =>
      rw [hg] at h
      have h1 := HT.sub_dep h
      have h2 := HF.dep_get hg
      simp only [HT.dep, List.length_cons]
      omega
end Go.Proofs.YtipljeomgdomnaaGreatDoor
/- W1 -/
namespace Go.Proofs.YtipljeomgdomnaaGreatDoor
open Go

abbrev NT : TypeId := 101
theorem fresh_spec : FN Tryz.prog 46 [] [] (fun v h => ∃ b mk ma, v = .pointer (some ⟨b, 0, none⟩) ∧ h = [(HT.nd b mk ma 0 0 [] .nil).blks 101]) := by
  refine FN.intro 5 [] Tryz.func46 rfl (enters Tryz.func46 (by kernel_rfl) rfl) Tryz.ntmps46 rfl rfl ?_
  refine WP.seq <| WP.region <| v0 (S0.assign rfl) rfl <| vE <| WP.seq <| WP.region <| vnv (S1.makeMap) rfl fun b1 => vnv (S1.makeMap) rfl fun b2 => v0 (S0.build rfl (qs := [(0, _), (1, _)]) rfl) rfl <| vn (S1.box rfl rfl) rfl fun b4 => v0 (S0.assign rfl) rfl <| vE <| WP.ret <| ?_  -- ret
  refine Leaves.drop (take1 at0 (take1 (atS at0) (take1 at0 take0))) ?_
  refine Leaves.drop (h' := [(HT.nd b4 b1 b2 0 0 [] .nil).blks 101]) (k := []) (List.Perm.of_eq (by simp [HT.blks, HF.blks, HF.ml, aml])) ?_
  refine r1 rfl rfl ?_
  exact ⟨b4, b1, b2, rfl, rfl⟩
/-- one map's entries put into another one -/
theorem mcopy_spec {d s : Nat} {G L : ML Int} {cg ck : Nat} {cs : List Blk} [hm : HasC cs s (mapO (Value.int .i64) L ck)] (hg : WfM G cg) (hw : WfM L ck) :
    FN Tryz.prog 90 [.map (some d), .map (some s)] [[(d, mapO (Value.int .i64) G cg)], cs]
      (fun v h => ∃ G' cg', WfM G' cg' ∧ (∀ i, i ∈ G'.map (·.1) ↔ i ∈ G.map (·.1) ∨ i ∈ L.map (·.1)) ∧ v = .tuple #[] ∧ h = [[(d, mapO (Value.int .i64) G' cg')], cs]) := by
  refine FN.intro 16 [(0, .map (some d)), (1, .map (some s))] Tryz.func90 rfl (enters Tryz.func90 (by kernel_rfl) rfl) Tryz.ntmps90 rfl rfl ?_
  refine WP.seq <| WP.region <| v0 (S0.move rfl) rfl <| ?_  -- op t7 := range 87 t6
  refine vn (S1.range rfl) rfl fun b7 => ?_
  refine vE <| WP.block <| ?_  -- Code.loop
  refine WP.loop (fun st : ML Int × ML Int × Nat => st.1.Nodup ∧ (∀ x ∈ st.1, x ∈ L) ∧ WfM st.2.1 st.2.2 ∧ (∀ i, i ∈ st.2.1.map (·.1) ↔ i ∈ G.map (·.1) ∨ i ∈ st.1.map (·.1))) (fun st : ML Int × ML Int × Nat => [(0, .map (some d)), (1, .map (some s)), (7, .pointer (some ⟨b7, 0, none⟩))]) (fun st : ML Int × ML Int × Nat => [[(b7, .mapIter (some s) ck ⟨st.1.map (·.2.2)⟩ ck)], [(d, mapO (Value.int .i64) st.2.1 st.2.2)], cs]) (fun st : ML Int × ML Int × Nat => L.length - st.1.length) (([], G, cg)) (⟨by simp, by simp, hg, by simp⟩) ⟨rfl, rfl, rfl, trivial⟩ ⟨_, (take1 at0 (take1 at0 (take1 at0 take0)))⟩ (fun st hinv => ?_) 
  obtain ⟨xs, G1, c1⟩ := st
  obtain ⟨hn, hsub, hG, hkeys⟩ := hinv
  dsimp only at hn hsub hG hkeys ⊢
  refine WP.seq <| WP.region <| ?_  -- op t8 := next t7 false
  refine ve (S1.next hw rfl) rfl ?_
  rintro _ _ (⟨rfl, rfl, hall⟩ | ⟨y, hy, hyn, rfl, rfl⟩)
  skip
  · skip
    refine v0 (S0.extract rfl rfl) rfl <| vE <| WP.seq <| ?_  -- cond
    refine WP.condFh rfl (rfl) ?_
    refine WP.exit <| ?_  -- fnend
    refine Leaves.drop (take1 (atS at0) (take1 (atS at0) take0)) ?_
    refine r0 rfl ?_
    refine ⟨G1, c1, hG, fun i => ?_, rfl, rfl⟩
    rw [hkeys i]
    have hp := perm_of_all hw hn hsub hall
    rw [(hp.map (·.1)).mem_iff]
  · skip
    refine v0 (S0.extract rfl rfl) rfl <| vE <| WP.seq <| ?_  -- cond
    refine WP.condTh rfl (rfl) ?_
    refine WP.skip <| WP.block <| WP.seq <| WP.region <| ?_  -- op t10 := entry t7
    refine v0 (S0.entry (ek := Value.int .i64) (m := s) (pre := xs.map (fun x : Int × Value × Nat => x.2.2)) hw hy rfl) rfl <| ?_
    refine v0 (S0.extract rfl rfl) rfl <| v0 (S0.extract rfl rfl) rfl <| v0 (S0.assign rfl) rfl <| v0 (S0.assign rfl) rfl <| vE <| WP.region <| v0 (S0.move rfl) rfl <| v0 (S0.move rfl) rfl <| v0 (S0.move rfl) rfl <| ?_  -- op mapUpdate 87 t13 t14 t15
    refine vs (S1.mapUpdate (ek := Value.int .i64) (k := y.1) rfl rfl rfl) <| ?_
    refine vE <| ?_  -- roundend
    have hyx : y ∉ xs := fun hm => hyn (List.mem_map.2 ⟨y, hm, rfl⟩)
    have hnd : (xs ++ [y]).Nodup := List.nodup_append.2 ⟨hn, by simp, fun a ha b hb e => by simp at hb; subst hb; subst e; exact hyx ha⟩
    have hsb : ∀ x ∈ xs ++ [y], x ∈ L := fun x hx => (List.mem_append.1 hx).elim (hsub x) fun h => by simp at h; subst h; exact hy
    have hle : (xs ++ [y]).length ≤ L.length := hnd.length_le_of_subset hsb
    have hk2 : ∀ i, i ∈ (putM G1 c1 y.1 y.2.1).map (·.1) ↔ i ∈ G.map (·.1) ∨ i ∈ (xs ++ [y]).map (·.1) := fun i => by
      have h1 : i ∈ (putM G1 c1 y.1 y.2.1).map (·.1) ↔ getM (putM G1 c1 y.1 y.2.1) i ≠ none := by
        rw [ne_eq, get_none_iff]; simp only [Decidable.not_not]
      have h2 : i ∈ G1.map (·.1) ↔ getM G1 i ≠ none := by rw [ne_eq, get_none_iff]; simp only [Decidable.not_not]
      rw [h1, get_put, List.map_append, List.mem_append, ← or_assoc, ← hkeys i, h2]
      by_cases e : i = y.1 <;> simp [e]
    exact ⟨(xs ++ [y], putM G1 c1 y.1 y.2.1, clkM G1 c1 y.1), (by first | exact ⟨hnd, hsb, hG.put _ _, hk2⟩ | (dsimp only; exact ⟨hnd, hsb, hG.put _ _, hk2⟩)), (by simp at hle ⊢; omega), ⟨⟨rfl, rfl, rfl, trivial⟩, rfl, rfl⟩, ⟨[], List.Perm.of_eq (by simp)⟩⟩
end Go.Proofs.YtipljeomgdomnaaGreatDoor
/- W2 -/
namespace Go.Proofs.YtipljeomgdomnaaGreatDoor
open Go

theorem nd_perm (T : TypeId) (b mk ma ck ca : Nat) (A : AL) (K : HF) (X : List Blk) (h : (K.blks T).Perm X) : ((HT.nd b mk ma ck ca A K).blks T).Perm ((b, .cells ⟨[.map (some mk), .map (some ma)]⟩ T (0, 0)) :: (mk, mapO sv K.ml ck) :: (ma, mapO (Value.int .i64) (aml A) ca) :: X) := by
  simp only [HT.blks]
  exact ((h.cons _).cons _).cons _
theorem bool_ands (p q : Prop) [Decidable p] [Decidable q] (b : Bool) (h : b = (decide p && decide q)) : (if p then decide q else false) = b := by
  subst h; by_cases hp : p <;> simp [hp]
def TrimOK (t : HT) : Prop := t.wf → FN Tryz.prog 72 [t.ptr] [t.blks 101]
  (fun v h => ∃ t' : HT, t'.wf ∧ t'.b = t.b ∧ (∀ p i, t'.cnt p i = t.cnt p i) ∧ t'.dep ≤ t.dep ∧ v = .bool t'.bare ∧ h = [t'.blks 101])
theorem HF.ml_nil_iff (K : HF) : K.ml.length = 0 ↔ K.ml.isEmpty = true := by cases K <;> simp [HF.ml]
def Kids (Q : HT → Prop) (K : HF) : Prop := ∀ x u, K.get x = some u → Q u
theorem Kids.nil {Q : HT → Prop} : Kids Q .nil := fun x u h => by cases h
theorem Kids.cons {Q : HT → Prop} {k : Str} {bn : Nat} {t : HT} {r : HF} (h1 : Q t) (h2 : Kids Q r) : Kids Q (.cons k bn t r) := fun x u h => by
    simp only [HF.get] at h
    split at h
    · cases h; exact h1
    · exact h2 x u h
theorem trim_spec (t : HT) : TrimOK t := by
  induction t using HT.rec (motive_2 := Kids TrimOK) with
  | nil => exact Kids.nil
  | cons k bn t r ih1 ih2 => exact Kids.cons ih1 ih2
  | nd b mk ma ck ca A K ih =>
    intro hw
    simp only [HT.wf] at hw
    obtain ⟨hwk, hwa, hpos, hwK⟩ := hw
    show FN _ _ [.pointer (some ⟨b, 0, none⟩)] _ _
    refine FN.intro 36 [(0, .pointer (some ⟨b, 0, none⟩))] Tryz.func72 rfl (enters Tryz.func72 (by kernel_rfl) rfl) Tryz.ntmps72 rfl rfl ?_
    refine WP.perm (h' := [[(b, .cells ⟨[.map (some mk), .map (some ma)]⟩ 101 (0, 0)), (ma, mapO (Value.int .i64) (aml A) ca)], [(mk, mapO sv K.ml ck)], K.blks 101]) (k := []) (by
      simp only [HT.blks, List.flatten_cons, List.flatten_nil, List.append_nil, List.cons_append, List.nil_append]
      exact (List.Perm.swap _ _ _).cons _) ?_
    refine WP.seq <| WP.region <| v0 (S0.assign rfl) rfl <| vE <| WP.seq <| WP.seq <| WP.region <| v0 (S0.move rfl) rfl <| v0 (S0.nilCheck rfl) rfl <| v0 (S0.fieldAddr rfl) rfl <| v0 (S0.load rfl rfl) rfl <| ?_  -- op t9 := range 99 t8
    refine vn (S1.range rfl) rfl fun b9 => ?_
    refine vE <| WP.block <| ?_  -- Code.loop
    refine WP.loop (fun st : HF × List Nat => st.1.wf ∧ WfM st.1.ml ck ∧ st.1.dep ≤ K.dep ∧ (∀ z ∈ st.1.ml, z ∈ K.ml) ∧ (∀ z ∈ st.1.ml, z.2.2 ∉ st.2 → st.1.get z.1 = K.get z.1) ∧ (∀ x p i, st.1.cnt x p i = K.cnt x p i) ∧ st.2.Nodup ∧ (∀ n ∈ st.2, n ∈ K.ml.map (·.2.2))) (fun st : HF × List Nat => [(0, .pointer (some ⟨b, 0, none⟩)), (9, .pointer (some ⟨b9, 0, none⟩))]) (fun st : HF × List Nat => [[(b9, .mapIter (some mk) ck ⟨st.2⟩ ck)], [(b, .cells ⟨[.map (some mk), .map (some ma)]⟩ 101 (0, 0)), (ma, mapO (Value.int .i64) (aml A) ca)], [(mk, mapO sv st.1.ml ck)], st.1.blks 101]) (fun st : HF × List Nat => K.ml.length - st.2.length) ((K, [])) (⟨hwK, hwk, Nat.le_refl _, fun z h => h, fun z h1 h2 => rfl, fun x p i => rfl, by simp, by simp⟩) ⟨rfl, rfl, trivial⟩ ⟨_, (take1 at0 (take1 at0 (take1 at0 (take1 at0 take0))))⟩ (fun st hinv => ?_) 
    obtain ⟨K1, seen⟩ := st
    obtain ⟨h1, h2, h3, h4, h5, h6, h7, h8⟩ := hinv
    dsimp only at h1 h2 h3 h4 h5 h6 h7 h8 ⊢
    refine WP.seq <| WP.region <| ?_  -- op t10 := next t9 false
    refine ve (S1.next h2 rfl) rfl ?_
    rintro _ _ (⟨rfl, rfl, hall⟩ | ⟨y, hy, hyn, rfl, rfl⟩)
    skip
    · skip
      refine v0 (S0.extract rfl rfl) rfl <| vE <| WP.seq <| ?_  -- cond
      refine WP.condFh rfl (rfl) ?_
      have fin : ∀ bb, bb = (HT.nd b mk ma ck ca A K1).bare → ∃ t' : HT, t'.wf ∧ t'.b = (HT.nd b mk ma ck ca A K).b ∧ (∀ p i, t'.cnt p i = (HT.nd b mk ma ck ca A K).cnt p i) ∧ t'.dep ≤ (HT.nd b mk ma ck ca A K).dep ∧ Value.bool bb = .bool t'.bare ∧ [(HT.nd b mk ma ck ca A K1).blks 101] = [t'.blks 101] := fun bb hb =>
        ⟨.nd b mk ma ck ca A K1, ⟨h2, hwa, hpos, h1⟩, rfl, fun p i => by cases p with
          | nil => rfl
          | cons x p => exact h6 x p i, h3, by rw [hb], rfl⟩
      have dr : ([[(b, .cells ⟨[.map (some mk), .map (some ma)]⟩ 101 (0, 0)), (ma, mapO (Value.int .i64) (aml A) ca)], [(mk, mapO sv K1.ml ck)], K1.blks 101] : Hp).flatten.Perm (([(HT.nd b mk ma ck ca A K1).blks 101] : Hp).flatten ++ ([] : Hp).flatten) := by
        simp only [HT.blks, List.flatten_cons, List.flatten_nil, List.append_nil, List.cons_append, List.nil_append]
        exact (List.Perm.swap _ _ _).cons _
      refine WP.exit <| WP.seq <| WP.region <| v0 (S0.move rfl) rfl <| v0 (S0.nilCheck rfl) rfl <| v0 (S0.fieldAddr rfl) rfl <| v0 (S0.load rfl rfl) rfl <| v0 (S0.lenM rfl) rfl <| v0 (S0.cmp rfl rfl rfl) rfl <| v0 (S0.move rfl) rfl <| ?_  -- guard t28 (wants True) at t29 := move t0 [if #6=True]
      first | refine csP (t := 28) rfl (fun hl => ?_) (fun hl => ?_) | refine csN (t := 28) rfl (fun hl => ?_) (fun hl => ?_) | refine cs (t := 28) rfl (fun hl => ?_) (fun hl => ?_)
      · skip
        refine gT rfl <| v0 (S0.move rfl) rfl <| gT rfl <| v0 (S0.nilCheck rfl) rfl <| gT rfl <| v0 (S0.fieldAddr rfl) rfl <| gT rfl <| v0 (S0.load rfl rfl) rfl <| gT rfl <| v0 (S0.lenM rfl) rfl <| gT rfl <| v0 (S0.cmp rfl rfl rfl) rfl <| v0 (S0.pickT rfl rfl) rfl <| v0 (S0.assign rfl) rfl <| vE <| WP.ret <| ?_  -- ret
        refine Leaves.drop (take1 (atS at0) (take1 (atS at0) (take1 (atS at0) take0))) ?_
        refine Leaves.drop dr ?_
        refine r1 rfl rfl ?_
        refine fin _ ?_
        simp only [HT.bare]
        have e1 : K1.ml.isEmpty = true := by rw [← HF.ml_nil_iff]; simpa using hl
        rw [e1, Bool.and_true]
        cases A <;> simp [aml]
        omega
      · skip
        refine gF rfl rfl <| gF rfl rfl <| gF rfl rfl <| gF rfl rfl <| gF rfl rfl <| gF rfl rfl <| v0 (S0.pickF rfl rfl) rfl <| v0 (S0.assign rfl) rfl <| vE <| WP.ret <| ?_  -- ret
        refine Leaves.drop (take1 (atS at0) (take1 (atS at0) (take1 (atS at0) take0))) ?_
        refine Leaves.drop dr ?_
        refine r1 rfl rfl ?_
        refine fin _ ?_
        simp only [HT.bare]
        have e1 : K1.ml.isEmpty = false := by
          cases hq : K1.ml.isEmpty with
          | false => rfl
          | true => rw [← HF.ml_nil_iff] at hq; exact absurd (by simp [hq]) hl
        rw [e1, Bool.and_false]
    · skip
      obtain ⟨u, hu, hup⟩ := HF.ml_get h2 hy
      have hKu : K.get y.1 = some u := by rw [← h5 y hy hyn]; exact hu
      have hT := ih y.1 u hKu (HF.get_wf hKu hwK)
      obtain ⟨C, hC1, hC2, hC3⟩ := HF.split 101 K1 y.1 u hu
      have hyK : y.2.2 ∈ K.ml.map (fun z : Str × Value × Nat => z.2.2) := List.mem_map.2 ⟨y, h4 y hy, rfl⟩
      have hnd : (seen ++ [y.2.2]).Nodup := List.nodup_append.2 ⟨h7, by simp, fun a ha b hb e => by simp at hb; subst hb; subst e; exact hyn ha⟩
      have hsb : ∀ n ∈ seen ++ [y.2.2], n ∈ K.ml.map (fun z : Str × Value × Nat => z.2.2) := fun n hn => (List.mem_append.1 hn).elim (h8 n) fun h => by simp at h; subst h; exact hyK
      have hle : (seen ++ [y.2.2]).length ≤ K.ml.length := by have := hnd.length_le_of_subset hsb; simpa using this
      have hne : ∀ z ∈ K1.ml, z.2.2 ∉ seen ++ [y.2.2] → z.2.2 ∉ seen ∧ z.1 ≠ y.1 := fun z hz hzn => by
        simp only [List.mem_append, List.mem_singleton, not_or] at hzn
        exact ⟨hzn.1, fun e => hzn.2 (by rw [HF.born_key h2 hz hy e])⟩
      have hd := HF.dep_get hu
      refine v0 (S0.extract rfl rfl) rfl <| vE <| WP.seq <| ?_  -- cond
      refine WP.condTh rfl (rfl) ?_
      refine WP.skip <| WP.block <| WP.seq <| WP.region <| ?_  -- op t12 := entry t9
      refine v0 (S0.entry (ek := sv) (m := mk) (pre := seen) h2 hy rfl) rfl <| ?_
      rw [hup]
      refine v0 (S0.extract rfl rfl) rfl <| v0 (S0.extract rfl rfl) rfl <| v0 (S0.assign rfl) rfl <| v0 (S0.assign rfl) rfl <| vE <| WP.seq <| WP.region <| v0 (S0.move rfl) rfl <| ?_  -- op t16 := call F72{rivulet/trie.trim}(t15)
      refine WO.perm (h' := [[(b9, .mapIter (some mk) ck ⟨seen ++ [y.2.2]⟩ ck)], [(b, .cells ⟨[.map (some mk), .map (some ma)]⟩ 101 (0, 0)), (ma, mapO (Value.int .i64) (aml A) ca)], [(mk, mapO sv K1.ml ck)], u.blks 101, C]) (k := []) (by
        simp only [List.flatten_cons, List.flatten_nil, List.append_nil, List.cons_append, List.nil_append]
        exact (((hC1.cons _).cons _).cons _).cons _) ?_
      refine vc (S1.callF rfl (hT) (take1 (atS (atS (atS at0))) take0)) rfl ?_
      rintro _ _ ⟨u', hw', hb', hc', hd', rfl, rfl⟩
      refine app ?_
      refine vE <| ?_  -- cond
      skip
      cases hbare : u'.bare with
      | true =>
        skip
        refine WP.condTh rfl (rfl) ?_
        refine WP.region <| v0 (S0.move rfl) rfl <| v0 (S0.nilCheck rfl) rfl <| v0 (S0.fieldAddr rfl) rfl <| v0 (S0.load rfl rfl) rfl <| v0 (S0.move rfl) rfl <| ?_  -- op delete(t20, t21) :[99, 9]
        refine vs (S1.delete (ek := sv) (k := y.1) rfl rfl) <| ?_
        refine vE <| ?_  -- roundend
        have hcz : ∀ p i, u.cnt p i = 0 := fun p i => by rw [← hc']; exact HT.bare_cnt hbare p i
        exact ⟨(K1.del y.1, seen ++ [y.2.2]), (by first | exact ⟨HF.del_wf h1, by rw [HF.del_ml]; exact h2.del _, HF.dep_del h3, fun z hz => h4 z (by rw [HF.del_ml] at hz; exact (del_sub _ _).subset hz), fun z hz hzn => by
          have hz' : z ∈ K1.ml := by rw [HF.del_ml] at hz; exact (del_sub _ _).subset hz
          obtain ⟨hz1, hz2⟩ := hne z hz' hzn
          rw [HF.get_del h2.keys, if_neg hz2]
          exact h5 z hz' hz1, fun x p i => by rw [HF.del_cnt_same h2.keys hu hcz]; exact h6 x p i, hnd, hsb⟩ | (dsimp only; exact ⟨HF.del_wf h1, by rw [HF.del_ml]; exact h2.del _, HF.dep_del h3, fun z hz => h4 z (by rw [HF.del_ml] at hz; exact (del_sub _ _).subset hz), fun z hz hzn => by
          have hz' : z ∈ K1.ml := by rw [HF.del_ml] at hz; exact (del_sub _ _).subset hz
          obtain ⟨hz1, hz2⟩ := hne z hz' hzn
          rw [HF.get_del h2.keys, if_neg hz2]
          exact h5 z hz' hz1, fun x p i => by rw [HF.del_cnt_same h2.keys hu hcz]; exact h6 x p i, hnd, hsb⟩)), (by simp at hle ⊢; omega), ⟨⟨rfl, rfl, trivial⟩, rfl, rfl⟩, ⟨[u'.blks 101], by
          simp only [List.flatten_cons, List.flatten_nil, List.append_nil, List.cons_append, List.nil_append, HF.del_ml]
          refine List.perm_append_comm.trans ?_
          simp only [List.cons_append]
          exact ((((hC2.symm.append_right _).cons _).cons _).cons _).cons _⟩⟩
      | false =>
        skip
        refine WP.condFh rfl (rfl) ?_
        refine WP.skip <| ?_  -- roundend
        have hcu : K1.get y.1 ≠ none := by rw [hu]; simp
        exact ⟨(K1.set y.1 u', seen ++ [y.2.2]), (by first | exact ⟨HF.set_wf h1 hw', by rw [HF.set_ml _ _ _ _ hu hb']; exact h2, HF.dep_set h3 (by omega), fun z hz => h4 z (by rw [HF.set_ml _ _ _ _ hu hb'] at hz; exact hz), fun z hz hzn => by
          rw [HF.set_ml _ _ _ _ hu hb'] at hz
          obtain ⟨hz1, hz2⟩ := hne z hz hzn
          rw [HF.get_kid hu, if_neg hz2]
          exact h5 z hz hz1, fun x p i => by rw [HF.set_cnt_same hu hc']; exact h6 x p i, hnd, hsb⟩ | (dsimp only; exact ⟨HF.set_wf h1 hw', by rw [HF.set_ml _ _ _ _ hu hb']; exact h2, HF.dep_set h3 (by omega), fun z hz => h4 z (by rw [HF.set_ml _ _ _ _ hu hb'] at hz; exact hz), fun z hz hzn => by
          rw [HF.set_ml _ _ _ _ hu hb'] at hz
          obtain ⟨hz1, hz2⟩ := hne z hz hzn
          rw [HF.get_kid hu, if_neg hz2]
          exact h5 z hz hz1, fun x p i => by rw [HF.set_cnt_same hu hc']; exact h6 x p i, hnd, hsb⟩)), (by simp at hle ⊢; omega), ⟨⟨rfl, rfl, trivial⟩, rfl, rfl⟩, ⟨[], by
          simp only [List.flatten_cons, List.flatten_nil, List.append_nil, List.cons_append, List.nil_append, HF.set_ml _ _ _ _ hu hb']
          refine List.perm_append_comm.trans ?_
          simp only [List.cons_append]
          exact (((((List.perm_append_comm.trans (hC3 u').symm)).cons _).cons _).cons _).cons _⟩⟩
end Go.Proofs.YtipljeomgdomnaaGreatDoor
/- View -/
/-
  Slices that are read: cuts of rows among them.
-/
namespace Go.Proofs.YtipljeomgdomnaaGreatDoor
open Go

/-- a slice that is read: its elements are laid by 'en' -/
def Rd {α : Type} (k : Nat) (en : α → List Value) (v : Value) (R : List α) (c : List Blk) : Prop :=
  ∃ a cap, v = .slice a R.length cap ∧ R.length ≤ cap ∧ (R = [] ∨ ∃ b o L U fz, a = some ⟨b, o, none⟩ ∧ (b, Obj.cells ⟨L⟩ U fz) ∈ c ∧ ∀ i x, R[i]? = some x → (L.drop (o + i * k)).take k = en x)
theorem Rd.nil {α : Type} {k : Nat} {en : α → List Value} {c : List Blk} : Rd k en (.slice none 0 0) ([] : List α) c := ⟨none, 0, rfl, Nat.le_refl _, .inl rfl⟩
theorem IsSl.rd {α : Type} {en : α → List Value} {E : TypeId} {k : Nat} (hk : ∀ x, (en x).length = k + 1) {R : List α} {v : Value} {row : List Blk} (h : IsSl E (k + 1) v (R.flatMap en) row) : Rd (k + 1) en v R row := by
  obtain ⟨a, cap, rfl, hc, hr⟩ := IsSl.elems hk h
  refine ⟨a, cap, rfl, hc, ?_⟩
  rcases hr with ⟨h0, -⟩ | ⟨b, sp, rfl, rfl, -⟩
  · exact .inl h0
  · refine .inr ⟨b, 0, _, _, _, rfl, List.mem_cons_self, fun i x hx => ?_⟩
    rw [Nat.zero_add]
    exact flat_take (k := k + 1) hk sp R i x hx
theorem Rd.mono {α : Type} {k : Nat} {en : α → List Value} {v : Value} {R : List α} {c c' : List Blk} (h : Rd k en v R c) (hs : ∀ p ∈ c, p ∈ c') : Rd k en v R c' := by
  obtain ⟨a, cap, e, hc, h⟩ := h
  exact ⟨a, cap, e, hc, h.imp id fun ⟨b, o, L, U, fz, e1, e2, e3⟩ => ⟨b, o, L, U, fz, e1, hs _ e2, e3⟩⟩
theorem rd_get {α : Type} {k : Nat} {en : α → List Value} {L : List Value} {m : Nat} {x : α} (h : (L.drop m).take k = en x) {j : Nat} (hj : j < k) : L[m + j]? = (en x)[j]? := by
  rw [← h, List.getElem?_take_of_lt hj, List.getElem?_drop]
section
variable {P : Program} {f : Fr} {d : Option Tmp} {ty : TypeId} {p : String} {af : Array Edge} {gd : Option (Nat × Bool)} {SL : List Blk} {T E : TypeId} {x : Operand} {k by_ : Nat} {zv : Value}
/-- a cut of a slice, whatever its base -/
theorem S0.sliceG {a : Option Addr} {n c : Nat} {lo hi : Option Operand} {i j : Nat} [kk : Und P T (.slice E)] [ki : Inf P E k by_ zv] (hx : ev f x = some (.slice a n c))
    (hlo : match lo with | none => i = 0 | some y => ev f y = some (.int .i64 i)) (hhi : match hi with | none => j = n | some y => ev f y = some (.int .i64 j)) (hij : i ≤ j ∧ j ≤ c) :
    S0 P f SL ⟨d, .slice T x lo hi none, ty, p, af, gd⟩ (.slice (if c = i then a else a.map (·.add (i * k))) (j - i) (c - i)) :=
  S0.pure (by intro c; simp) (by intro c; simp) fun ρ w k' => by
    obtain ⟨h1, h2⟩ := hij
    have e1 : ∀ (bd : BoundsCode) (m : Nat), j ≤ m → (Instr.sliceBound (.int .i64 j) m bd).run P w = .ok j w := fun bd m hm => by
      simp only [Instr.sliceBound, asIntOf, Sem.run_bind, Sem.run_pure, Result.andThen_ok]
      rw [if_pos ⟨by omega, by omega⟩]; simp
    have e2 : ∀ (bd : BoundsCode) (m : Nat), i ≤ m → (Instr.sliceBound (.int .i64 i) m bd).run P w = .ok i w := fun bd m hm => by
      simp only [Instr.sliceBound, asIntOf, Sem.run_bind, Sem.run_pure, Result.andThen_ok]
      rw [if_pos ⟨by omega, by omega⟩]; simp
    have eb : (Instr.sliceBounds true n c (lo.map ρ) (hi.map ρ) none).run P w = .ok (i, j, c) w := by
      cases lo with
      | none => cases hi with
        | none => simp only at hlo hhi; subst hlo hhi; simp [Instr.sliceBounds]
        | some yh => simp only at hlo hhi; subst hlo; simp [Instr.sliceBounds, k' _ _ hhi, e1 _ c h2]
      | some yl => cases hi with
        | none => simp only at hlo hhi; subst hhi; simp [Instr.sliceBounds, k' _ _ hlo, e2 _ j h1]
        | some yh => simp only at hlo hhi; simp [Instr.sliceBounds, k' _ _ hlo, k' _ _ hhi, e1 _ c h2, e2 _ j h1]
    simp only [execOp, k' _ _ hx, Instr.sliceAt, Sem.run_bind, run_underlying kk.eq, Result.andThen_ok, Instr.slice, Option.map_none, eb, run_sizeOf (k := ki), Sem.run_pure]
end
theorem Rd.cutG {α : Type} {k : Nat} {en : α → List Value} {a : Option Addr} {n cap : Nat} {R : List α} {c : List Blk} (h : Rd k en (.slice a n cap) R c) (i j : Nat) (hij : i ≤ j) (hj : j ≤ R.length) :
    n = R.length ∧ n ≤ cap ∧ Rd k en (.slice (if cap = i then a else a.map (·.add (i * k))) (j - i) (cap - i)) ((R.drop i).take (j - i)) c := by
  obtain ⟨a', cap', e, hc, h⟩ := h
  simp only [Value.slice.injEq] at e
  obtain ⟨rfl, rfl, rfl⟩ := e
  have hlen : ((R.drop i).take (j - i)).length = j - i := by simp; omega
  refine ⟨rfl, hc, _, _, by rw [hlen], by rw [hlen]; omega, ?_⟩
  by_cases h0 : j = i
  · left; subst h0; simp
  right
  rcases h with h | ⟨b', o', L, U, fz, rfl, e2, e3⟩
  · subst h; simp at hj; omega
  · rw [if_neg (by omega)]
    refine ⟨b', o' + i * k, L, U, fz, ?_, e2, fun m x hx => ?_⟩
    · simp only [Option.map_some, Addr.add]
      split <;> simp_all
    · have hm : m < j - i := by have := (List.getElem?_eq_some_iff.1 hx).1; omega
      rw [List.getElem?_take_of_lt hm, List.getElem?_drop] at hx
      have := e3 (i + m) x hx
      rw [Nat.add_mul, ← Nat.add_assoc] at this
      exact this
/-- texts that are read -/
abbrev RdS (v : Value) (R : List Str) (c : List Blk) : Prop := Rd 1 (fun x : Str => [sv x]) v R c
theorem IsSl.rdS {E : TypeId} {R : List Str} {v : Value} {row : List Blk} (h : IsSl E 1 v (strs R) row) : RdS v R row := by
  rw [strs_flat] at h
  exact IsSl.rd (k := 0) (fun _ => rfl) h
theorem rdS_get {L : List Value} {o i : Nat} {x : Str} (h : (L.drop (o + i * 1)).take 1 = [sv x]) : L[o + i]? = some (sv x) := by
  have := rd_get (en := fun x : Str => [sv x]) h (j := 0) (by omega)
  simpa using this
theorem rdS_hd {L : List Value} {o : Nat} {x : Str} {l : List Str} (h : ∀ i y, (x :: l)[i]? = some y → (L.drop (o + i * 1)).take 1 = [sv y]) : L[o]? = some (sv x) := rdS_get (i := 0) (h 0 x rfl)
/-- without its first one -/
theorem RdS.tail {a : Option Addr} {n cap : Nat} {x : Str} {R : List Str} {c : List Blk} (h : RdS (.slice a n cap) (x :: R) c) : RdS (.slice (if cap = 1 then a else a.map (·.add (1 * 1))) (n - 1) (cap - 1)) R c := by
  obtain ⟨e, -, h2⟩ := h.cutG 1 (x :: R).length (by simp) (Nat.le_refl _)
  have e2 : ((x :: R).drop 1).take ((x :: R).length - 1) = R := by simp
  rw [e2, ← e] at h2
  exact h2
end Go.Proofs.YtipljeomgdomnaaGreatDoor
/- W3 -/
namespace Go.Proofs.YtipljeomgdomnaaGreatDoor
open Go

theorem gather_nil {lv got : Value} : FN Tryz.prog 61 [.pointer none, lv, got] [] (is (.tuple #[]) []) := by
  refine FN.intro 52 [(0, .pointer none), (1, lv), (2, got)] Tryz.func61 rfl (enters Tryz.func61 (by kernel_rfl) rfl) Tryz.ntmps61 rfl rfl ?_
  refine WP.seq <| WP.seq <| WP.region <| v0 (S0.move rfl) rfl <| v0 (S0.nilP rfl rfl rfl rfl) rfl <| vE <| ?_  -- cond
  refine WP.condTh rfl (rfl) ?_
  refine WP.ret <| ?_  -- ret
  refine r0 rfl ⟨?_, rfl⟩
  rfl
theorem FN.frame {P : Program} {g : Nat} {args : List Value} {h hr : Hp} {post : Value → Hp → Prop} (H : FN P g args h post) : FN P g args (h ++ hr) (fun v h2 => ∃ h', post v h' ∧ h2 = h' ++ hr) :=
  ⟨H.enters, fun E R w st => (H.run E (hr.flatten ++ R) w (by simpa using st)).mono fun _ _ ⟨v, h', e, hp, st'⟩ => ⟨v, h' ++ hr, e, ⟨h', hp, rfl⟩, by simpa using st'⟩⟩
/-- who asks at a node: its entries' keys -/
theorem at_keys {t : HT} (hw : t.wf) (i : Int) : i ∈ (aml t.at).map (·.1) ↔ t.cnt [] i ≠ 0 := by
  cases t with
  | nd b mk ma ck ca A K =>
    simp only [HT.wf] at hw
    rw [aml_keys]
    exact (getA_pos hw.2.2.1 i).1
theorem HT.node_mem {b mk ma ck ca : Nat} {A : AL} {K : HF} {T : TypeId} {ct : List Blk} (h : ∀ z ∈ (HT.nd b mk ma ck ca A K).blks T, z ∈ ct) : HasC ct b (.cells ⟨[.map (some mk), .map (some ma)]⟩ T (0, 0)) ∧ HasC ct mk (mapO sv K.ml ck) ∧ HasC ct ma (mapO (Value.int .i64) (aml A) ca) ∧ ∀ z ∈ K.blks T, z ∈ ct :=
  ⟨⟨h _ (by simp [HT.blks])⟩, ⟨h _ (by simp [HT.blks])⟩, ⟨h _ (by simp [HT.blks])⟩, fun z hz => h z (by simp [HT.blks, hz])⟩
/-- a child, or nil -/
def HF.ptr (K : HF) (x : Str) : Value := match K.get x with | some u => u.ptr | none => .pointer none
theorem HF.ptr_ml (K : HF) (x : Str) : (getM K.ml x).getD (.pointer none) = K.ptr x := by
  rw [HF.get_ml]; unfold HF.ptr
  cases K.get x <;> rfl
def GatherOK (lv : List Str) : Prop := ∀ (t : HT), t.wf → ∀ {v : Value} {d : Nat} {G : ML Int} {cg : Nat} {ct cl : List Blk}, (∀ z ∈ t.blks 101, z ∈ ct) → WfM G cg → RdS v lv cl → lv.length ≤ 1000000 →
    FN Tryz.prog 61 [t.ptr, v, .map (some d)] [[(d, mapO (Value.int .i64) G cg)], ct, cl]
      (fun u h => ∃ G' cg', WfM G' cg' ∧ (∀ i, i ∈ G'.map (·.1) ↔ i ∈ G.map (·.1) ∨ HT.gath lv t i) ∧ u = .tuple #[] ∧ h = [[(d, mapO (Value.int .i64) G' cg')], ct, cl])
/-- a child below -/
theorem gather_kid {lv : List Str} (ih : GatherOK lv) (K : HF) (y : Str) {v2 : Value} {d : Nat} {G1 : ML Int} {c1 : Nat} {ct cl : List Blk} (hKw : K.wf) (hKb : ∀ z ∈ K.blks 101, z ∈ ct) (hG1 : WfM G1 c1) (hr2 : RdS v2 lv cl) (hl : lv.length ≤ 1000000) :
        FN Tryz.prog 61 [K.ptr y, v2, .map (some d)] [[(d, mapO (Value.int .i64) G1 c1)], ct, cl]
          (fun u h => ∃ G' cg', WfM G' cg' ∧ (∀ i, i ∈ G'.map (·.1) ↔ i ∈ G1.map (·.1) ∨ ∃ u, K.get y = some u ∧ HT.gath lv u i) ∧ u = .tuple #[] ∧ h = [[(d, mapO (Value.int .i64) G' cg')], ct, cl]) := by
      unfold HF.ptr
      cases hK : K.get y with
      | none => exact (FN.frame gather_nil (hr := [[(d, mapO (Value.int .i64) G1 c1)], ct, cl])).mono fun u h ⟨h', ⟨e1, e2⟩, e3⟩ => ⟨G1, c1, hG1, by simp, e1, by rw [e3, e2]; rfl⟩
      | some w => exact (ih w (HF.get_wf hK hKw) (fun z hz => hKb z (HF.get_mem _ hK z hz)) hG1 hr2 hl).mono fun u h ⟨G', c', h1, h2, h3, h4⟩ => ⟨G', c', h1, by simpa using h2, h3, h4⟩
theorem gather_step (L : List Str) (ih : ∀ x lv, L = x :: lv → GatherOK lv) : GatherOK L := by
    intro t hw v d G cg ct cl hct hg hr hl
    cases t with
    | nd b mk ma ck ca A K =>
      simp only [HT.wf] at hw
      obtain ⟨i1, i2, i3, hKb⟩ := HT.node_mem hct
      obtain ⟨a, cap, rfl, hcap, hr1⟩ := hr
      show FN _ _ [.pointer (some ⟨b, 0, none⟩), _, _] _ _
      refine FN.intro 52 [(0, .pointer (some ⟨b, 0, none⟩)), (1, .slice a L.length cap), (2, .map (some d))] Tryz.func61 rfl (enters Tryz.func61 (by kernel_rfl) rfl) Tryz.ntmps61 rfl rfl ?_
      refine WP.seq <| WP.seq <| WP.region <| v0 (S0.move rfl) rfl <| v0 (S0.nilP rfl rfl rfl rfl) rfl <| vE <| ?_  -- cond
      refine WP.condFh rfl (rfl) ?_
      refine WP.skip <| WP.seq <| ?_  -- cut
      refine WP.cutT (fun st : ML Int × Nat => WfM st.1 st.2 ∧ (∀ i, i ∈ st.1.map (·.1) ↔ i ∈ G.map (·.1) ∨ ∃ u, K.get [35] = some u ∧ u.cnt [] i ≠ 0)) (fun st : ML Int × Nat => [(0, .pointer (some ⟨b, 0, none⟩)), (1, .slice a L.length cap), (2, .map (some d))]) (fun st : ML Int × Nat => [[(d, mapO (Value.int .i64) st.1 st.2)], ct, cl]) ?_ (fun st hinv => ?_)
      · refine WP.seq <| WP.region <| v0 (S0.move rfl) rfl <| v0 (S0.nilCheck rfl) rfl <| v0 (S0.fieldAddr rfl) rfl <| v0 (S0.load rfl rfl) rfl <| ?_  -- op t13 := lookup 99 t12 Value.string {'data': [35]} false
        refine v0 (S0.lookup (ek := sv) (k := [35]) rfl rfl) rfl <| ?_
        rw [HF.ptr_ml]
        skip
        unfold HF.ptr
        cases h35 : K.get [35] with
        | none =>
          dsimp only
          skip
          refine v0 (S0.assign rfl) rfl <| vE <| WP.seq <| WP.region <| v0 (S0.move rfl) rfl <| v0 (S0.nilP rfl rfl rfl rfl) rfl <| vE <| ?_  -- cond
          refine WP.condFh rfl (rfl) ?_
          refine WP.skip <| ?_  -- cutend
          exact ⟨(G, cg), (by first | exact ⟨hg, by simp⟩ | (dsimp only; exact ⟨hg, by simp⟩)), ⟨⟨rfl, rfl, rfl, trivial⟩, rfl, rfl⟩, ⟨_, (take1 at0 (take1 at0 (take1 at0 take0)))⟩⟩
        | some u =>
          skip
          cases u with
          | nd ub umk uma uck uca uA uK =>
            simp only [HT.ptr, HT.b]
            obtain ⟨j1, j2, j3, -⟩ := HT.node_mem (fun z hz => hKb z (HF.get_mem _ h35 z hz))
            have huw := HF.get_wf h35 hw.2.2.2
            have huk := at_keys huw
            simp only [HT.wf] at huw
            refine v0 (S0.assign rfl) rfl <| vE <| WP.seq <| WP.region <| v0 (S0.move rfl) rfl <| v0 (S0.nilP rfl rfl rfl rfl) rfl <| vE <| ?_  -- cond
            refine WP.condTh rfl (rfl) ?_
            refine WP.region <| v0 (S0.move rfl) rfl <| v0 (S0.move rfl) rfl <| v0 (S0.nilCheck rfl) rfl <| v0 (S0.fieldAddr rfl) rfl <| v0 (S0.load rfl rfl) rfl <| ?_  -- op t21 := call F90{maps.Copy[rivulet/trie.asks,rivulet/trie.asks,int,int]}(t16, t20)
            refine vc (S1.callF rfl (mcopy_spec (d := d) (s := uma) (cs := ct) hg huw.2.1) (take1 at0 (take1 at0 take0))) rfl ?_
            rintro _ _ ⟨G', cg', hG', hk', rfl, rfl⟩
            refine app ?_
            refine vE <| ?_  -- cutend
            exact ⟨(G', cg'), (by first | exact ⟨hG', fun i => by rw [hk' i]; simp only [Option.some.injEq, exists_eq_left']; rw [← huk i]; simp [HT.at]⟩ | (dsimp only; exact ⟨hG', fun i => by rw [hk' i]; simp only [Option.some.injEq, exists_eq_left']; rw [← huk i]; simp [HT.at]⟩)), ⟨⟨rfl, rfl, rfl, trivial⟩, rfl, rfl⟩, ⟨_, (take1 at0 (take1 at0 (take1 at0 take0)))⟩⟩
      · skip
        obtain ⟨G1, c1⟩ := st
        obtain ⟨hG1, hk1⟩ := hinv
        dsimp only at hG1 hk1 ⊢
        refine WP.seq <| WP.seq <| WP.region <| v0 (S0.move rfl) rfl <| v0 (S0.lenSl rfl) rfl <| v0 (S0.cmp rfl rfl rfl) rfl <| vE <| ?_  -- cond
        cases L with
        | nil =>
          skip
          skip
          refine WP.condTh rfl (rfl) ?_
          refine WP.seq <| WP.region <| v0 (S0.move rfl) rfl <| v0 (S0.move rfl) rfl <| v0 (S0.nilCheck rfl) rfl <| v0 (S0.fieldAddr rfl) rfl <| v0 (S0.load rfl rfl) rfl <| ?_  -- op t30 := call F90{maps.Copy[rivulet/trie.asks,rivulet/trie.asks,int,int]}(t25, t29)
          refine vc (S1.callF rfl (mcopy_spec (d := d) (s := ma) (cs := ct) hG1 hw.2.1) (take1 at0 (take1 at0 take0))) rfl ?_
          rintro _ _ ⟨G', cg', hG', hk', rfl, rfl⟩
          refine app ?_
          refine vE <| WP.ret <| ?_  -- ret
          refine Leaves.drop (take1 at0 (take1 at0 (take1 at0 take0))) ?_
          refine r0 rfl ?_
          refine ⟨G', cg', hG', fun i => ?_, rfl, rfl⟩
          rw [hk' i, hk1 i, aml_keys, (getA_pos hw.2.2.1 i).1]
          simp only [HT.gath, or_assoc]
        | cons x lv =>
          have htl := RdS.tail ⟨a, cap, rfl, hcap, hr1⟩
          have sub := ih x lv rfl
          have hl2 : lv.length ≤ 1000000 := by simp at hl; omega
          rcases hr1 with e | ⟨b1, o1, L1, U1, fz1, rfl, hm1, he1⟩
          · cases e
          have : HasC cl b1 (.cells ⟨L1⟩ U1 fz1) := ⟨hm1⟩
          skip
          refine WP.condFh rfl ((by simp; omega)) ?_
          skip
          refine WP.skip <| WP.seq <| WP.drawP [(0, none), (1, none), (2, none), (3, none), (4, none), (5, none), (6, none), (7, none), (8, none), (9, none), (10, none), (11, none)] mixed (by kernel_rfl) (by kernel_rfl) (by kernel_rfl) (take1 (atS at0) (take1 (atS at0) take0)) <| w0 rfl rfl rfl (S0.move rfl) rfl <| w0 rfl rfl rfl (S0.nilCheck rfl) rfl <| w0 rfl rfl rfl (S0.fieldAddr rfl) rfl <| w0 rfl rfl rfl (S0.load rfl rfl) rfl <| w0 rfl rfl rfl (S0.move rfl) rfl <| ?_  -- op t36 := indexAddr 23 t35 0:i64
          refine w0 rfl rfl rfl (S0.indexO1 (i := 0) rfl rfl (by simp)) rfl <| ?_
          refine w0 rfl rfl rfl (S0.load rfl (rdS_get (he1 0 x rfl))) rfl <| ?_
          refine w0 rfl rfl rfl (S0.lookup (ek := sv) (k := x) rfl rfl) rfl <| ?_
          rw [HF.ptr_ml]
          refine w0 rfl rfl rfl (S0.move rfl) rfl <| ?_  -- op t40 := slice 23 t39 1:i64 none none
          refine w0 rfl rfl rfl (S0.sliceG (i := 1) rfl rfl rfl ⟨by simp, hcap⟩) rfl <| ?_
          refine w0 rfl rfl rfl (S0.move rfl) rfl <| ?_  -- op t42 := call F61{rivulet/trie.gather}(t38, t40, t41)
          refine weS rfl rfl rfl rfl (S1.callF rfl (gather_kid sub K x hw.2.2.2 hKb hG1 htl hl2) (take1 (atS (atS at0)) (take1 at0 (take1 at0 take0)))) rfl ?_
          rintro _ _ ⟨_, ⟨G2, c2, hG2, hk2, rfl, rfl⟩, rfl⟩
          refine ⟨_, (take1 (atS at0) (take1 (atS at0) take0)), ?_⟩
          skip
          refine wE <| WP.drawP [(0, none), (1, none), (2, none), (3, none), (4, none), (5, none), (6, none), (7, none), (8, none)] mixed (by kernel_rfl) (by kernel_rfl) (by kernel_rfl) (take1 at0 (take1 at0 take0)) <| w0 rfl rfl rfl (S0.move rfl) rfl <| w0 rfl rfl rfl (S0.nilCheck rfl) rfl <| w0 rfl rfl rfl (S0.fieldAddr rfl) rfl <| w0 rfl rfl rfl (S0.load rfl rfl) rfl <| ?_  -- op t47 := lookup 99 t46 Value.string {'data': [43]} false
          refine w0 rfl rfl rfl (S0.lookup (ek := sv) (k := [43]) rfl rfl) rfl <| ?_
          rw [HF.ptr_ml]
          refine w0 rfl rfl rfl (S0.move rfl) rfl <| ?_  -- op t49 := slice 23 t48 1:i64 none none
          refine w0 rfl rfl rfl (S0.sliceG (i := 1) rfl rfl rfl ⟨by simp, hcap⟩) rfl <| ?_
          refine w0 rfl rfl rfl (S0.move rfl) rfl <| ?_  -- op t51 := call F61{rivulet/trie.gather}(t47, t49, t50)
          refine weS rfl rfl rfl rfl (S1.callF rfl (gather_kid sub K [43] hw.2.2.2 hKb hG2 htl hl2) (take1 (atS (atS at0)) (take1 at0 (take1 at0 take0)))) rfl ?_
          rintro _ _ ⟨_, ⟨G3, c3, hG3, hk3, rfl, rfl⟩, rfl⟩
          refine ⟨_, (take1 (atS at0) (take1 (atS at0) take0)), ?_⟩
          refine wE <| ?_  -- fnend
          refine Leaves.drop (take1 (atS (atS at0)) (take1 at0 (take1 at0 take0))) ?_
          refine r0 rfl ?_
          refine ⟨G3, c3, hG3, fun i => ?_, rfl, rfl⟩
          rw [hk3 i, hk2 i, hk1 i]
          simp only [HT.gath, or_assoc]
theorem gather_spec : ∀ (lv : List Str), GatherOK lv
  | [] => gather_step [] fun x lv h => by cases h
  | x :: lv => gather_step (x :: lv) fun y l h => by cases h; exact gather_spec lv
end Go.Proofs.YtipljeomgdomnaaGreatDoor
/- Int -/
/-
  More rules for integers: division, bits.
-/
namespace Go.Proofs.YtipljeomgdomnaaGreatDoor
open Go

def bitsI (op : BinOp) (k : IntKind) (x y : Int) : Option Int :=
  let a := BitVec.ofInt k.bits x
  let b := BitVec.ofInt k.bits y
  match op with
  | .and => some (k.wrap (a &&& b).toNat)
  | .or => some (k.wrap (a ||| b).toNat)
  | .xor => some (k.wrap (a ^^^ b).toNat)
  | _ => none
theorem mask_i64 {x y z : Int} (h : bitsI .and .i64 x y = some z) (hy : 0 ≤ y ∧ y ≤ 9223372036854775807) : 0 ≤ z ∧ z ≤ y := by
  simp only [bitsI, Option.some.injEq] at h
  have h1 : (BitVec.ofInt IntKind.i64.bits x &&& BitVec.ofInt IntKind.i64.bits y).toNat ≤ (BitVec.ofInt IntKind.i64.bits y).toNat := by
    rw [BitVec.toNat_and]; exact Nat.and_le_right
  have h2 : (BitVec.ofInt IntKind.i64.bits y).toNat = y.toNat := by
    rw [BitVec.toNat_ofInt]
    have : ((2 ^ IntKind.i64.bits : Nat) : Int) = 18446744073709551616 := by decide
    rw [this, Int.emod_eq_of_lt hy.1 (by omega)]
  rw [h2] at h1
  rw [wrap_i64 (by omega)] at h
  omega

section
variable {P : Program} {r : Option Nat} {Q : Exit → Fr → Hp → Prop} {f : Fr} {h h' : Hp} {d : Option Tmp} {ty : TypeId} {p : String} {af : Array Edge} {gd : Option (Nat × Bool)} {S : Hp} {SL : List Blk}
theorem S0.bits {x y k m n op T U z} (hx : ev f x = some (.int k m)) (hy : ev f y = some (.int k n)) (hb : bitsI op k m n = some z) : S0 P f SL ⟨d, .binOp op T x y U, ty, p, af, gd⟩ (.int k z) :=
  S0.pure (by intro c; simp) (by intro c; simp) fun ρ w k' => by
    cases op <;> simp only [bitsI, Option.some.injEq, reduceCtorEq] at hb <;> subst hb <;> simp [execOp, k' _ _ hx, k' _ _ hy, eqGuard, binOp, Op.intBits]
theorem S0.rem {x y k m n T U} (hx : ev f x = some (.int k m)) (hy : ev f y = some (.int k n)) (hn : n ≠ 0) : S0 P f SL ⟨d, .binOp .rem T x y U, ty, p, af, gd⟩ (.int k (m.tmod n)) :=
  S0.pure (by intro c; simp) (by intro c; simp) fun ρ w k' => by simp [execOp, k' _ _ hx, k' _ _ hy, eqGuard, binOp, Op.intDiv, hn]
theorem S0.quo {x y k m n T U z} (hx : ev f x = some (.int k m)) (hy : ev f y = some (.int k n)) (hn : n ≠ 0) (hz : k.wrap (m.tdiv n) = z) : S0 P f SL ⟨d, .binOp .quo T x y U, ty, p, af, gd⟩ (.int k z) :=
  S0.pure (by intro c; simp) (by intro c; simp) fun ρ w k' => by subst hz; simp [execOp, k' _ _ hx, k' _ _ hy, eqGuard, binOp, Op.intDiv, hn]
end
end Go.Proofs.YtipljeomgdomnaaGreatDoor
/- Law -/
/-
  From a law function's contract to its row.
-/
namespace Go.Proofs.YtipljeomgdomnaaGreatDoor
open Go Go.ChangeShapes Go.WideShapes Go.ChangeAt Go.RowKit

/-- all blocks of a world -/
def whole (W : World) : List Blk := W.heap.toList.zipIdx.map fun x => (x.2, x.1)
theorem whole_mem {W : World} {b : Nat} {o : Obj} : (b, o) ∈ whole W ↔ W.heap[b]? = some o := by
  unfold whole
  simp only [List.mem_map, Prod.mk.injEq, Prod.exists]
  constructor
  · rintro ⟨x, i, h, rfl, rfl⟩
    have := List.mem_zipIdx_iff_getElem?.1 h
    simpa using this
  · intro h
    exact ⟨o, b, List.mem_zipIdx_iff_getElem?.2 (by simpa using h), rfl, rfl⟩
theorem whole_nodup {W : World} : ((whole W).map Prod.fst).Nodup := by
  unfold whole
  rw [List.map_map]
  have : (Prod.fst ∘ fun x : Obj × Nat => (x.2, x.1)) = Prod.snd := rfl
  rw [this, List.zipIdx_map_snd]
  exact List.nodup_range'
theorem Sat.whole (W : World) : Sat W (([whole W] : Hp).flatten ++ []) W :=
  ⟨by simpa using whole_nodup, fun p hp => by simp at hp; exact whole_mem.1 hp, rfl, rfl, rfl, Nat.le_refl _, Nat.le_refl _⟩

theorem law_calls {P : Program} {g : Nat} {args : List Value} {W : World} (H : FN P g args [whole W] (fun v h => v = .bool true ∧ h = [whole W])) :
    Calls P g ⟨args⟩ W fun e w' => e = .returned (.bool true) ∧ Below W.heap.size W w' := by
  refine (H.run W [] W (Sat.whole W)).mono ?_
  rintro e w' ⟨v, h', rfl, ⟨rfl, rfl⟩, st⟩
  refine ⟨rfl, st.os, st.tape, st.out, st.size, fun k hk => ?_⟩
  obtain ⟨o, ho⟩ : ∃ o, W.heap[k]? = some o := ⟨W.heap[k], by simp [hk]⟩
  rw [ho]
  exact st.cell (k, o) (by simp; exact whole_mem.2 ho)

/-- The types of the parameters can be read. -/
def readAll (P : Program) (ts : List TypeId) : Bool := ts.all fun t => P.readableRec t && decide (t < P.types.size)
theorem Below.trodAll {H : Type} {enc : TypeId × Value → H} {P : Program} (hl : laidOutB P = true) {W W' : World} (hb : Below W.heap.size W W') {sp : Nat → Bool} :
    ∀ {ts : List TypeId} {vs : List Value} {ds : List (DataW H)} {ps : List MemPlace}, readAll P ts = true → DataW.TrodAll enc P W 0 (fun _ => true) true ts vs ds ps → (∀ x ∈ ps, x.block < W.heap.size) → (∀ x ∈ ps, sp x.block = true) → DataW.TrodAll enc P W' 0 sp true ts vs ds ps
  | [], vs, ds, ps, _, h, _, _ => by
    obtain ⟨rfl, rfl, rfl⟩ := trodAll_nil h
    exact trodAll_mk0
  | t :: ts, vs, ds, ps, hr, h, hlt, hsp => by
    obtain ⟨v, vs', d, ds', p, q, rfl, rfl, rfl, h1, h2⟩ := trodAll_cons h
    simp only [readAll, List.all_cons, Bool.and_eq_true, decide_eq_true_eq] at hr
    exact trodAll_cons_mk (WideElems.Trod_stays hl hr.1.1 hr.1.2 h1 (fun x hx => hb.same (hlt x (by simp [hx]))) (fun x hx => hsp x (by simp [hx]))) (Below.trodAll hl hb hr.2 h2 (fun x hx => hlt x (by simp [hx])) (fun x hx => hsp x (by simp [hx])))

theorem law_post {H : Type} {enc : TypeId × Value → H} {P : Program} {f : Func} {s : ChangeSpec} {apart fresh handsOn again : Bool} {W W' : World} {args : Array Value} {ds gs : List (DataW H)} {before : List MemPlace} {t : TypeId}
    (hl : laidOutB P = true) (hv : s.vars = []) (hr : f.resultTypes = #[t]) (ht : P.underlying t = some .bool) (hp : readAll P f.params.toList = true)
    (hs : ∀ ds : List (DataW H), ds.length = f.params.toList.length → (s.fn H ds).results = [.lit (.bool true)] ∧ (s.fn H ds).args = ds ∧ (s.fn H ds).vars = [])
    (hW : DataW.Whole enc P f.params.toList s.vars apart W args.toList ds gs before) (hb : Below W.heap.size W W') :
    s.post enc P f apart fresh handsOn again W args (.bool true) W' := by
  have hlt := hW.lt
  have hW0 := hW
  obtain ⟨p, q, hA, hV, rfl, hz, hn⟩ := hW0
  rw [hv] at hV
  obtain ⟨rfl, rfl⟩ := trodVars_none hV
  simp only [List.append_nil] at *
  have hlen : ds.length = f.params.toList.length := by
    have : ∀ {ts : List TypeId} {vs : List Value} {ds : List (DataW H)} {ps : List MemPlace}, DataW.TrodAll enc P W 0 (fun _ => true) true ts vs ds ps → ds.length = ts.length := by
      intro ts
      induction ts with
      | nil => intro vs ds ps h; obtain ⟨_, rfl, _⟩ := trodAll_nil h; rfl
      | cons t ts ih => intro vs ds ps h; obtain ⟨_, _, _, _, _, _, _, rfl, _, _, h2⟩ := trodAll_cons h; simp [ih h2]
    exact this hA
  obtain ⟨e1, e2, e3⟩ := hs ds hlen
  have hres : ∀ (b : Nat) (sp : Nat → Bool) (hd : Bool), DataW.TrodAll enc P W' b sp hd f.resultTypes.toList ((Value.bool true).resultList f.resultTypes.size) (s.fn H (ds ++ [])).results [] := fun b sp hd => by
    rw [List.append_nil, e1, hr]
    exact trodAll_mk1 (shut_bool ht true)
  have hargs : ∀ sp : Nat → Bool, (∀ x ∈ p, sp x.block = true) → DataW.TrodAll enc P W' 0 sp true f.params.toList args.toList (s.fn H (ds ++ [])).args p := fun sp hsp => by
    rw [List.append_nil, e2]
    exact Below.trodAll hl hb hp hA hlt hsp
  have hvars : ∀ sp : Nat → Bool, DataW.TrodVars enc P W' sp s.vars (s.fn H (ds ++ [])).vars [] := fun sp => by
    rw [List.append_nil, e3, hv]; rfl
  have hold : ∀ x ∈ p, (fun b => decide (b < W.heap.size)) x.block = true := fun x hx => by simpa using hlt x hx
  refine ⟨ds, [], p, [], p, [], by simpa using hW, hres _ _ _, hargs _ hold, hvars _, hb.frame _, fun _ => ?_⟩
  refine ⟨ok_one hr rfl (okWide_bool_mk ht true), _, _, p, ⟨p, [], by simpa using trodAll_append (hargs _ (fun _ _ => rfl)) (hres 0 (fun _ => true) true), hvars _, by simp, ?_, ?_⟩, ?_⟩
  · intro b off hp
    rw [hb.frozen (p := ⟨b, off, none⟩) (hlt _ hp)]
    exact hz b off hp
  · intro ha
    exact hn ha
  · intro x hx _
    simpa using hx

/-! arguments opened -/
/-- a slice of structs of integers, all of kind i64 -/
def intStruct (P : Program) (e : TypeId) (k : Nat) : Prop := ∃ fs, P.underlying e = some (.struct fs) ∧ P.cellsOf e = k ∧ ∀ j, j < k → ∃ f, fs[j]? = some f ∧ f.offset = j ∧ P.cellsOf f.type = 1 ∧ P.underlying f.type = some (.int .i64)
/-- what the walk knows of such an argument -/
def ArgI (W : World) (k : Nat) (v : Value) : Prop := ∃ a len cap, v = .slice a len cap ∧ len ≤ cap ∧ (len = 0 ∨ ∃ b o L U fz, a = some ⟨b, o, none⟩ ∧ W.heap[b]? = some (.cells ⟨L⟩ U fz) ∧ ∀ i j, i < len → j < k → ∃ n, L[o + i * k + j]? = some (.int .i64 n) ∧ (Lit.int .i64 n).wf = true)
theorem open_argI {H : Type} {enc : TypeId × Value → H} {P : Program} {W : World} {sp : Nat → Bool} {r : Reach} {b0 : Nat} {t e : TypeId} {k : Nat} {v : Value} {d : DataW H} {ps : List MemPlace} (ht : P.underlying t = some (.slice e)) (he : intStruct P e (k + 1)) (hval : Value.okWide P W r b0 t v)
    (h : DataW.Trod enc P W 0 sp true t v d ps) : ArgI W (k + 1) v := by
  obtain ⟨a, len, cap, rfl⟩ := okWide_slice ht hval
  obtain ⟨fuel, h⟩ := h
  obtain ⟨fs, hfs, hce, hf⟩ := he
  rcases Deep.open_slice ht h with ⟨h0, _⟩ | ⟨a', len', cap', m, n, D, Pl, hc, _, hlc, _, hm, _, hx⟩
  · simp [Value.cells] at h0
    obtain ⟨rfl, rfl, rfl⟩ := h0
    exact ⟨none, 0, 0, rfl, Nat.le_refl _, .inl rfl⟩
  · simp [Value.cells] at hc
    obtain ⟨rfl, rfl, rfl⟩ := hc
    refine ⟨_, _, _, rfl, hlc, ?_⟩
    rcases Nat.eq_zero_or_pos len with h0 | h0
    · exact .inl h0
    right
    have hlm : len ≤ m := by rw [hm]; split <;> omega
    have key : ∀ i j, i < len → j < k + 1 → ∃ n, W.cell? (a'.add (i * (k + 1) + j)) = some (.int .i64 n) ∧ (Lit.int .i64 n).wf = true := fun i j hi hj => by
      obtain ⟨cs', h1, h2⟩ := hx i (by omega)
      rw [hce] at h1
      obtain ⟨_, hlen, hcell⟩ := World.cells?_some h1
      obtain ⟨xs, n', hn', _, _, hxl, hfld⟩ := DataW.trod_struct hfs h2
      obtain ⟨f, hf1, hf2, hf3, hf4⟩ := hf j hj
      have h3 := hfld j f hf1
      rw [hf2, hf3] at h3
      have hj2 : j < xs.length := by rw [hxl]; exact (Array.getElem?_eq_some_iff.1 hf1).1
      rw [List.getElem?_eq_getElem hj2] at h3
      obtain ⟨z, hz, _, hwf⟩ := DataW.trod_int hf4 h3
      have h4 := hcell j (by omega)
      have h5 : cs'[j]? = some (.int .i64 z) := by
        have := congrArg (fun l => l[0]?) hz
        simpa using this
      rw [h5] at h4
      refine ⟨z, ?_, hwf⟩
      rw [← h4]
      congr 1
      unfold Addr.add
      by_cases e1 : i * (k + 1) = 0 <;> by_cases e2 : j = 0 <;> simp [e1, e2] <;> omega
    obtain ⟨n0, hn0, _⟩ := key 0 0 h0 (by omega)
    have hsp : a'.spot = none ∧ ∃ L U fz, W.heap[a'.block]? = some (.cells L U fz) := by
      simp only [Nat.zero_mul, Nat.add_zero, Addr.add, if_true] at hn0
      unfold World.cell? at hn0
      split at hn0
      · rename_i c U fz hh
        split at hn0
        · cases hn0
        · rename_i hs
          exact ⟨by simpa using hs, _, _, _, hh⟩
      · cases hn0
    obtain ⟨hs, ⟨L⟩, U, fz, hh⟩ := hsp
    obtain ⟨b, o, spo⟩ := a'
    simp only at hs hh
    subst hs
    refine ⟨b, o, L, U, fz, rfl, hh, fun i j hi hj => ?_⟩
    obtain ⟨n, hn, hwf⟩ := key i j hi hj
    have ea : (⟨b, o, none⟩ : Addr).add (i * (k + 1) + j) = ⟨b, o + (i * (k + 1) + j), none⟩ := by unfold Addr.add; split <;> simp_all
    rw [ea] at hn
    refine ⟨n, ?_, hwf⟩
    unfold World.cell? at hn
    simp only [hh] at hn
    simpa [Nat.add_assoc] using hn

/-- a slice of integers of kind q -/
def ArgQ (W : World) (q : IntKind) (v : Value) : Prop := ∃ a len cap, v = .slice a len cap ∧ len ≤ cap ∧ (len = 0 ∨ ∃ b o L U fz, a = some ⟨b, o, none⟩ ∧ W.heap[b]? = some (.cells ⟨L⟩ U fz) ∧ ∀ i, i < len → ∃ n, L[o + i]? = some (.int q n) ∧ (Lit.int q n).wf = true)
theorem open_argQ {H : Type} {enc : TypeId × Value → H} {P : Program} {W : World} {sp : Nat → Bool} {r : Reach} {b0 : Nat} {t e : TypeId} {q : IntKind} {v : Value} {d : DataW H} {ps : List MemPlace} (ht : P.underlying t = some (.slice e)) (he : P.underlying e = some (.int q)) (hce : P.cellsOf e = 1) (hval : Value.okWide P W r b0 t v)
    (h : DataW.Trod enc P W 0 sp true t v d ps) : ArgQ W q v := by
  obtain ⟨a, len, cap, rfl⟩ := okWide_slice ht hval
  obtain ⟨fuel, h⟩ := h
  rcases Deep.open_slice ht h with ⟨h0, _⟩ | ⟨a', len', cap', m, n, D, Pl, hc, _, hlc, _, hm, _, hx⟩
  · simp [Value.cells] at h0
    obtain ⟨rfl, rfl, rfl⟩ := h0
    exact ⟨none, 0, 0, rfl, Nat.le_refl _, .inl rfl⟩
  · simp [Value.cells] at hc
    obtain ⟨rfl, rfl, rfl⟩ := hc
    refine ⟨_, _, _, rfl, hlc, ?_⟩
    rcases Nat.eq_zero_or_pos len with h0 | h0
    · exact .inl h0
    right
    have hlm : len ≤ m := by rw [hm]; split <;> omega
    have key : ∀ i, i < len → ∃ n, W.cell? (a'.add i) = some (.int q n) ∧ (Lit.int q n).wf = true := fun i hi => by
      obtain ⟨cs', h1, h2⟩ := hx i (by omega)
      rw [hce] at h1
      obtain ⟨_, hlen, hcell⟩ := World.cells?_some h1
      obtain ⟨z, hz, _, hwf⟩ := DataW.trod_int he h2
      have h4 := hcell 0 (by omega)
      rw [hz] at h4
      refine ⟨z, ?_, hwf⟩
      simpa [Addr.add] using h4
    obtain ⟨n0, hn0, _⟩ := key 0 h0
    have hsp : a'.spot = none ∧ ∃ L U fz, W.heap[a'.block]? = some (.cells L U fz) := by
      simp only [Addr.add, if_true] at hn0
      unfold World.cell? at hn0
      split at hn0
      · rename_i c U fz hh
        split at hn0
        · cases hn0
        · rename_i hs
          exact ⟨by simpa using hs, _, _, _, hh⟩
      · cases hn0
    obtain ⟨hs, ⟨L⟩, U, fz, hh⟩ := hsp
    obtain ⟨b, o, spo⟩ := a'
    simp only at hs hh
    subst hs
    refine ⟨b, o, L, U, fz, rfl, hh, fun i hi => ?_⟩
    obtain ⟨n, hn, hwf⟩ := key i hi
    have ea : (⟨b, o, none⟩ : Addr).add i = ⟨b, o + i, none⟩ := by unfold Addr.add; split <;> simp_all
    rw [ea] at hn
    refine ⟨n, ?_, hwf⟩
    unfold World.cell? at hn
    simp only [hh] at hn
    simpa using hn
theorem wf_i64 {n : Int} (h : (Lit.int .i64 n).wf = true) : -9223372036854775808 ≤ n ∧ n ≤ 9223372036854775807 := by simpa [Lit.wf, IntKind.min, IntKind.max, IntKind.signed, IntKind.bits] using h
theorem wf_u8 {n : Int} (h : (Lit.int .u8 n).wf = true) : 0 ≤ n ∧ n ≤ 255 := by simpa [Lit.wf, IntKind.min, IntKind.max, IntKind.signed, IntKind.bits] using h
end Go.Proofs.YtipljeomgdomnaaGreatDoor
/- Arg -/
/-
  Arguments opened: texts; slices of flat structs (of integers, texts, bools, and structs of such).
-/
namespace Go.Proofs.YtipljeomgdomnaaGreatDoor
open Go Go.ChangeShapes Go.WideShapes Go.ChangeAt Go.RowKit

inductive CK
  | i (k : IntKind)
  | s
  | b
def CK.fits : CK → Value → Prop
  | .i k, v => ∃ n, v = .int k n ∧ (Lit.int k n).wf = true
  | .s, v => ∃ l : Str, v = sv l ∧ l.length ≤ maxLen
  | .b, v => ∃ x, v = .bool x

/-- what is laid of fields, one behind the other -/
def catF (P : Program) (rec_ : TypeId → Option (List CK)) : List Field → Nat → Option (List CK)
  | [], _ => some []
  | f :: fs, off =>
    if f.offset = off then
      match rec_ f.type with
      | some ks => if P.cellsOf f.type = ks.length then (match catF P rec_ fs (off + ks.length) with | some r => some (ks ++ r) | none => none) else none
      | none => none
    else none
def flatTy (P : Program) : Nat → TypeId → Option (List CK)
  | 0, _ => none
  | n + 1, t =>
    match P.underlying t with
    | some (.int k) => some [.i k]
    | some .string => some [.s]
    | some .bool => some [.b]
    | some (.struct fs) => catF P (flatTy P n) fs.toList 0
    | _ => none
def FitsAt (ks : List CK) (cs : List Value) (off : Nat) : Prop := ∀ j c, ks[j]? = some c → ∃ v, cs[off + j]? = some v ∧ c.fits v
theorem fitsAt_take {ks : List CK} {cs : List Value} {off n : Nat} (h : FitsAt ks ((cs.drop off).take n) 0) (hn : n = ks.length) : FitsAt ks cs off := fun j c hj => by
  obtain ⟨v, h1, h2⟩ := h j c hj
  have hlt : j < ks.length := (List.getElem?_eq_some_iff.1 hj).1
  rw [Nat.zero_add, List.getElem?_take_of_lt (by omega), List.getElem?_drop] at h1
  exact ⟨v, h1, h2⟩
section
variable {H : Type} {enc : TypeId × Value → H} {P : Program} {W : World} {sp : Nat → Bool}
theorem trod_flat : ∀ (m : Nat) {t : TypeId} {ks : List CK} {base fuel : Nat} {held : Bool} {cs : List Value} {x : DataW H × List MemPlace}, flatTy P m t = some ks → DataW.trod enc P W base sp held fuel t cs = some x → FitsAt ks cs 0
  | 0, _, _, _, _, _, _, _, h, _ => by simp [flatTy] at h
  | m + 1, t, ks, base, fuel, held, cs, x, h, hx => by
    unfold flatTy at h
    split at h
    · rename_i k hu
      cases h
      obtain ⟨n, rfl, -, hw⟩ := DataW.trod_int hu hx
      intro j c hj
      cases j with
      | zero => simp at hj; subst hj; exact ⟨_, rfl, n, rfl, hw⟩
      | succ j => simp at hj
    · rename_i hu
      cases h
      obtain ⟨s, rfl, -, hw⟩ := DataW.trod_string hu hx
      intro j c hj
      cases j with
      | zero => simp at hj; subst hj; exact ⟨_, rfl, s.data.toList, rfl, hw⟩
      | succ j => simp at hj
    · rename_i hu
      cases h
      obtain ⟨b, rfl, -⟩ := DataW.trod_bool hu hx
      intro j c hj
      cases j with
      | zero => simp at hj; subst hj; exact ⟨_, rfl, b, rfl⟩
      | succ j => simp at hj
    · rename_i fs hu
      obtain ⟨xs, n, -, -, -, hxl, hf⟩ := DataW.trod_struct hu hx
      have key : ∀ (l : List Field) (i off : Nat) (r : List CK), fs.toList.drop i = l → catF P (flatTy P m) l off = some r → FitsAt r cs off := by
        intro l
        induction l with
        | nil => intro i off r _ hr; simp [catF] at hr; subst hr; intro j c hj; simp at hj
        | cons f l ih =>
          intro i off r hd hr
          have hfi : fs[i]? = some f := by
            have := congrArg (fun l => l[0]?) hd
            simpa using this
          have hlt : i < fs.size := (Array.getElem?_eq_some_iff.1 hfi).1
          have hd2 : fs.toList.drop (i + 1) = l := by
            have := congrArg List.tail hd
            simpa using this
          unfold catF at hr
          split at hr
          · rename_i ho
            split at hr
            · rename_i ks1 hk1
              split at hr
              · rename_i hc
                split at hr
                · rename_i r2 hr2
                  cases hr
                  have h3 := hf i f hfi
                  rw [List.getElem?_eq_getElem (by rw [hxl]; exact hlt), ho, hc] at h3
                  have h4 := fitsAt_take (trod_flat m hk1 h3) rfl
                  have h5 := ih (i + 1) (off + ks1.length) r2 hd2 hr2
                  intro j c hj
                  by_cases hj1 : j < ks1.length
                  · rw [List.getElem?_append_left hj1] at hj; exact h4 j c hj
                  · rw [List.getElem?_append_right (by omega)] at hj
                    obtain ⟨v, e1, e2⟩ := h5 _ c hj
                    exact ⟨v, by rw [← e1]; congr 1; omega, e2⟩
                · cases hr
              · cases hr
            · cases hr
          · cases hr
      exact key fs.toList 0 0 ks (by simp) h
    · cases h

/-- a slice of such -/
def ArgF (W : World) (ks : List CK) (v : Value) : Prop := ∃ a len cap, v = .slice a len cap ∧ len ≤ cap ∧ (len = 0 ∨ ∃ b o L U fz, a = some ⟨b, o, none⟩ ∧ W.heap[b]? = some (.cells ⟨L⟩ U fz) ∧ ∀ i, i < len → FitsAt ks L (o + i * ks.length))
theorem open_argF {r : Reach} {b0 : Nat} {t e : TypeId} {ks : List CK} {v : Value} {d : DataW H} {ps : List MemPlace} (m : Nat) (ht : P.underlying t = some (.slice e)) (he : flatTy P m e = some ks) (hk : P.cellsOf e = ks.length) (hpos : 0 < ks.length) (hval : Value.okWide P W r b0 t v)
    (h : DataW.Trod enc P W 0 sp true t v d ps) : ArgF W ks v := by
  obtain ⟨a, len, cap, rfl⟩ := okWide_slice ht hval
  obtain ⟨fuel, h⟩ := h
  rcases Deep.open_slice ht h with ⟨h0, _⟩ | ⟨a', len', cap', q, n, D, Pl, hc, _, hlc, _, hm, _, hx⟩
  · simp [Value.cells] at h0
    obtain ⟨rfl, rfl, rfl⟩ := h0
    exact ⟨none, 0, 0, rfl, Nat.le_refl _, .inl rfl⟩
  · simp [Value.cells] at hc
    obtain ⟨rfl, rfl, rfl⟩ := hc
    refine ⟨_, _, _, rfl, hlc, ?_⟩
    rcases Nat.eq_zero_or_pos len with h0 | h0
    · exact .inl h0
    right
    have hlm : len ≤ q := by rw [hm]; split <;> omega
    have key : ∀ i j c, i < len → ks[j]? = some c → ∃ x, W.cell? (a'.add (i * ks.length + j)) = some x ∧ c.fits x := fun i j c hi hj => by
      obtain ⟨cs', h1, h2⟩ := hx i (by omega)
      rw [hk] at h1
      obtain ⟨_, hlen, hcell⟩ := World.cells?_some h1
      have hlt : j < ks.length := (List.getElem?_eq_some_iff.1 hj).1
      obtain ⟨x, hx1, hx2⟩ := trod_flat m he h2 j c hj
      rw [Nat.zero_add] at hx1
      have h4 := hcell j (by omega)
      rw [hx1] at h4
      refine ⟨x, ?_, hx2⟩
      rw [← h4]
      congr 1
      unfold Addr.add
      by_cases e1 : i * ks.length = 0 <;> by_cases e2 : j = 0 <;> simp [e1, e2] <;> omega
    obtain ⟨c0, hc0⟩ : ∃ c, ks[0]? = some c := ⟨_, List.getElem?_eq_getElem hpos⟩
    obtain ⟨n0, hn0, _⟩ := key 0 0 c0 h0 hc0
    have hsp : a'.spot = none ∧ ∃ L U fz, W.heap[a'.block]? = some (.cells L U fz) := by
      simp only [Nat.zero_mul, Nat.add_zero, Addr.add, if_true] at hn0
      unfold World.cell? at hn0
      split at hn0
      · rename_i c U fz hh
        split at hn0
        · cases hn0
        · rename_i hs
          exact ⟨by simpa using hs, _, _, _, hh⟩
      · cases hn0
    obtain ⟨hs, ⟨L⟩, U, fz, hh⟩ := hsp
    obtain ⟨b, o, spo⟩ := a'
    simp only at hs hh
    subst hs
    refine ⟨b, o, L, U, fz, rfl, hh, fun i hi j c hj => ?_⟩
    obtain ⟨x, hn, hfit⟩ := key i j c hi hj
    have ea : (⟨b, o, none⟩ : Addr).add (i * ks.length + j) = ⟨b, o + (i * ks.length + j), none⟩ := by unfold Addr.add; split <;> simp_all
    rw [ea] at hn
    refine ⟨x, ?_, hfit⟩
    unfold World.cell? at hn
    simp only [hh] at hn
    simpa [Nat.add_assoc] using hn
theorem open_str {r : Reach} {b0 : Nat} {t : TypeId} {v : Value} {d : DataW H} {ps : List MemPlace} (ht : P.underlying t = some .string) (hval : Value.okWide P W r b0 t v)
    (h : DataW.Trod enc P W 0 sp true t v d ps) : ∃ l : Str, v = sv l ∧ l.length ≤ maxLen := by
  obtain ⟨s, rfl, -, -, hs⟩ := ChangeMaps.open_string ht hval h
  exact ⟨s.data.toList, rfl, hs⟩
end

theorem take_cells {L : List Value} : ∀ (xs : List Value) (m : Nat), (∀ j x, xs[j]? = some x → L[m + j]? = some x) → (L.drop m).take xs.length = xs
  | [], m, _ => by simp
  | x :: xs, m, h => by
    have h0 := h 0 x rfl
    rw [Nat.add_zero] at h0
    obtain ⟨hlt, e⟩ := List.getElem?_eq_some_iff.1 h0
    rw [List.drop_eq_getElem_cons hlt, e, List.length_cons, List.take_succ_cons]
    rw [take_cells xs (m + 1) fun j y hj => by rw [Nat.add_assoc, Nat.add_comm 1 j]; exact h (j + 1) y (by simpa using hj)]
/-- elements chosen -/
theorem choose_elems {α : Type} {k : Nat} {en : α → List Value} {Q : α → Prop} {L : List Value} {o len : Nat} (h : ∀ i, i < len → ∃ x, Q x ∧ (L.drop (o + i * k)).take k = en x) :
    ∃ l : List α, l.length = len ∧ (∀ x ∈ l, Q x) ∧ ∀ i x, l[i]? = some x → (L.drop (o + i * k)).take k = en x := by
  induction len with
  | zero => exact ⟨[], rfl, by simp, by simp⟩
  | succ n ih =>
    obtain ⟨l, h1, h2, h3⟩ := ih fun i hi => h i (by omega)
    obtain ⟨x, hq, hx⟩ := h n (by omega)
    refine ⟨l ++ [x], by simp [h1], fun y hy => ?_, fun i y hy => ?_⟩
    · rcases List.mem_append.1 hy with hy | hy
      · exact h2 y hy
      · simp at hy; rw [hy]; exact hq
    · by_cases hi : i < l.length
      · rw [List.getElem?_append_left hi] at hy; exact h3 i y hy
      · rw [List.getElem?_append_right (by omega)] at hy
        have hi2 : i - l.length = 0 := by
          rcases Nat.eq_zero_or_pos (i - l.length) with h0 | h0
          · exact h0
          · rw [List.getElem?_eq_none (by simp; omega)] at hy; cases hy
        rw [hi2] at hy
        simp at hy
        subst hy
        rw [show i = n by omega]; exact hx
end Go.Proofs.YtipljeomgdomnaaGreatDoor
/- Grow -/
/-
  Slices: nil or not, room, growing, clearing.
-/
namespace Go.Proofs.YtipljeomgdomnaaGreatDoor
open Go

section
variable {P : Program} {r : Option Nat} {f : Fr} {h : Hp} {d : Option Tmp} {ty : TypeId} {p : String} {af : Array Edge} {gd : Option (Nat × Bool)} {SL : List Blk} {T E T2 : TypeId} {x y : Operand} {k by_ : Nat} {zv v : Value}

theorem S0.capSl {a n c T E} [kk : Und P T (.slice E)] (hx : ev f x = some (.slice a n c)) : S0 P f SL ⟨d, .call ⟨.builtin .cap, #[x], #[T]⟩, ty, p, af, gd⟩ (.int .i64 c) :=
  S0.pure (by intro c; simp) (by intro c hc; simp at hc; exact ⟨_, by rw [← hc]⟩) fun ρ w k' => by
    simp [execOp, resolve, invoke, builtin, Builtin.cap_, k' _ _ hx, run_underlying kk.eq, goInt]
theorem run_equalInS (g : Nat) {T E} [u : Und P T (.slice E)] (a : Option Addr) (n c : Nat) (w : World) : (Op.equalIn (g + 1) T (.slice a n c) (.slice none 0 0)).run P w = .ok a.isNone w := by
  cases a <;> simp only [Op.equalIn, Sem.run_bind, run_underlying u.eq, Result.andThen_ok, Sem.run_pure] <;> rfl
theorem run_equalS {T E} [u : Und P T (.slice E)] (a : Option Addr) (n c : Nat) (w : World) : (Op.equal T (.slice a n c) (.slice none 0 0)).run P w = .ok a.isNone w := run_equalInS 9999 a n c w
theorem S0.nilSl {T U E : TypeId} {x y : Operand} {a : Option Addr} {n c : Nat} {op : BinOp} [u : Und P T (.slice E)] (hx : ev f x = some (.slice a n c)) (hy : ev f y = some (.slice none 0 0)) {q : Bool}
    (hb : (match op with | .eql => some a.isNone | .neq => some (!a.isNone) | _ => none) = some q) : S0 P f SL ⟨d, .binOp op T x y U, ty, p, af, gd⟩ (.bool q) :=
  S0.pure (by intro c; simp) (by intro c; simp) fun ρ w k' => by
    have e1 := run_equalS (P := P) (T := T) (u := u) a n c w
    cases op <;> simp only [Option.some.injEq, reduceCtorEq] at hb <;> subst hb <;> simp [execOp, k' _ _ hx, k' _ _ hy, eqGuard, binOp, e1]

/-- 'append(nil, make([]E, n)...)' -/
theorem S1.growNil {n : Nat} {Q : IntKind} [kk : Und P T (.slice E)] [k2 : Und P T2 (.int Q)] [ki : Inf P E (k + 1) by_ zv] (hx : ev f x = some (.slice none 0 0)) (hy : ev f y = some (.int .i64 n))
    (hpos : 0 < n) (hroom : n ≤ 1000000000) (hb : by_ ≤ 100000 := by decide) :
    S1 P r ⟨d, .call ⟨.builtin .append, #[x, y], #[T, T2]⟩, ty, p, af, gd⟩ f h (fun v' h' => ∃ b nc sp, n ≤ nc ∧ sp.length = nc * zv.cells.size ∧ v' = .slice (some ⟨b, 0, none⟩) n nc ∧ h' = [(b, .cells ⟨sp⟩ E (0, 0))] :: h) :=
  S1.ofRun (by intro c; simp) fun E' R ρ w k' st => by
    have hwrap : IntKind.i64.wrap (n : Int) = n := by simp [IntKind.wrap, IntKind.bits, IntKind.signed]; omega
    have hm : n * by_ ≤ 1000000000 * 100000 := Nat.mul_le_mul hroom hb
    have hroom2 : ¬ ((n : Int) * (by_ : Int) > 2 ^ 48) := by
      have : ((n * by_ : Nat) : Int) ≤ ((1000000000 * 100000 : Nat) : Int) := by exact_mod_cast hm
      rw [Int.natCast_mul] at this
      omega
    have hch : ∀ (α : Type) (g : Nat → Sem α), (choose (.appendCap (0 + n) 0 E) >>= g).run P w = (g (0 + n + w.tape w.drawn (.appendCap (0 + n) 0 E) % (2 ^ 63 - (0 + n)))).run P { w with drawn := w.drawn + 1 } := fun α g => by
      simp only [Sem.run_bind, choose, Sem.run, Question.forced, Bool.false_eq_true, if_false, Question.cut, Result.andThen_ok]
    have hfit : ¬ (Builtin.nextslicecap (0 + n) 0 * by_ > 2 ^ 48) := by
      have := growslice_fits (need := 0 + n) (old := 0) (bytes := by_) (by omega) (by rw [Nat.zero_add]; omega)
      omega
    obtain ⟨nc, hnc⟩ : ∃ nc, nc = 0 + n + w.tape w.drawn (.appendCap (0 + n) 0 E) % (2 ^ 63 - (0 + n)) := ⟨_, rfl⟩
    rw [← hnc] at hch
    have hle : n ≤ nc := by omega
    clear hnc
    obtain ⟨sp, hsp⟩ : ∃ sp, sp = (Builtin.zeroCells zv.cells n).toList ++ (Builtin.zeroCells zv.cells (nc - (0 + n))).toList := ⟨_, rfl⟩
    have hsl : sp.length = nc * zv.cells.size := by
      rw [hsp]; simp [Builtin.zeroCells]; rw [← Nat.add_mul]; congr 1; omega
    refine ⟨.slice (some ⟨w.heap.size, 0, none⟩) n nc, _, { w with drawn := w.drawn + 1, heap := w.heap.push (.cells ⟨sp⟩ E (0, 0)) }, ?_, ⟨w.heap.size, nc, sp, hle, hsl, rfl, rfl⟩, Sat.new (h := h) (w := { w with drawn := w.drawn + 1 }) (Sat.draw st) _⟩
    simp only [execOp, resolve, invoke, builtin, k' _ _ hx, k' _ _ hy, List.map_toArray, List.map_cons, List.map_nil]
    have hk := ki.eq
    cases hi : P.info? E with
    | none => rw [hi] at hk; cases hk
    | some i =>
      rw [hi] at hk
      simp only [Option.map_some, Option.some.injEq, Prod.mk.injEq] at hk
      obtain ⟨hi1, hi2, hi3⟩ := hk
      have hpos2 : ¬ (n * (k + 1) = 0) := fun e => by
        rcases Nat.mul_eq_zero.1 e with e | e <;> omega
      have hi64 : IntKind.i64.max = 9223372036854775807 := by decide
      have hroomrun : ∀ (w0 : World), ((if nc * by_ > roomBytes then mark .noRoom else pure () : Sem Unit)).run P w0 = .ok () w0 := fun w0 => by split <;> rfl
      have has : ∀ w0 : World, (asInt (.int .i64 (n : Int))).run P w0 = .ok (n : Int) w0 := fun _ => rfl
      simp only [Builtin.append_, List.getElem?_toArray, List.getElem?_cons_zero, List.getElem?_cons_succ, Sem.run_bind, run_underlying kk.eq, Result.andThen_ok, run_sizeOf (k := ki), run_underlying k2.eq, Sem.run_pure, if_true, has, hwrap, Bool.false_eq_true, if_false, Bool.not_true]
      rw [if_neg (by omega)]
      simp only [Sem.run_bind, run_ti hi, Result.andThen_ok, hi2, Sem.run_pure]
      rw [if_neg hroom2]
      simp only [Sem.run_bind, run_ti hi, Result.andThen_ok, hi2, Sem.run_pure, Int.toNat_natCast]
      rw [if_neg (by omega), if_neg hpos2]
      simp only [Sem.run_bind, run_ti hi, Result.andThen_ok, hi2, Sem.run_pure]
      rw [if_neg (by rw [hi64]; omega)]
      simp only [Sem.run_bind, run_ti hi, Result.andThen_ok, hi2, Sem.run_pure]
      rw [if_neg hfit]
      rw [hch]
      simp only [Sem.run_bind, askRoom, hroomrun, Result.andThen_ok]
      have hold : ∀ w0 : World, (Builtin.firstCells (k + 1) 0 (.slice none 0 0)).run P w0 = .ok #[] w0 := fun _ => rfl
      simp only [hold, run_zeroV (k := ki), newRow, newObj, Sem.run, Sem.run_pure, Sem.run_bind, Result.andThen_ok]
      simp only [run_ti hi, Result.andThen_ok, hi2, hroomrun]
      have e3 : (#[] : Array Value) ++ Builtin.zeroCells zv.cells n ++ Builtin.zeroCells zv.cells (nc - (0 + n)) = ⟨sp⟩ := by
        rw [hsp]; apply Array.toList_inj.1; simp
      rw [e3, Nat.zero_add]
/-- 'clear(x)' -/
theorem S1.clearSl {b o n c : Nat} {l : List Value} {U : TypeId} {h2 : List Value → Hp} [kk : Und P T (.slice E)] [ki : Inf P E k by_ zv] [hh : Has h b (.cells ⟨l⟩ U (0, 0))] [hu : ∀ l', Upd h b (.cells ⟨l⟩ U (0, 0)) (.cells ⟨l'⟩ U (0, 0)) (h2 l')]
    (hx : ev f x = some (.slice (some ⟨b, o, none⟩) n c)) (hpos : 0 < n) (hle : o + n * k ≤ l.length) (hz : zv.cells.size = k) (hcv : ∀ v ∈ (Builtin.zeroCells zv.cells n).toList, cellV v = true) :
    S1 P r ⟨d, .call ⟨.builtin .clear, #[x], #[T]⟩, ty, p, af, gd⟩ f h (is (.tuple #[]) (h2 (l.take o ++ (Builtin.zeroCells zv.cells n).toList ++ l.drop (o + n * k)))) :=
  S1.ofRun (by intro c; simp) fun E' R ρ w k' st => by
    have hzl : (Builtin.zeroCells zv.cells n).toList.length = n * k := by simp [Builtin.zeroCells, hz]
    have hst := run_storeCells (P := P) (U := U) (Builtin.zeroCells zv.cells n).toList w o 0 l (st.has (k := hh)) (by omega) hcv
    rw [Nat.add_zero, hzl] at hst
    refine ⟨_, _, _, ?_, ⟨rfl, rfl⟩, st.upd (k := hu _)⟩
    obtain ⟨m, rfl⟩ : ∃ m, n = m + 1 := ⟨n - 1, by omega⟩
    simp only [execOp, resolve, invoke, builtin, k' _ _ hx, List.map_toArray, List.map_cons, List.map_nil]
    simp only [Builtin.clear_, List.getElem?_toArray, List.getElem?_cons_zero, Sem.run_bind, run_underlying kk.eq, Result.andThen_ok, run_zeroV (k := ki), hst, Sem.run_pure]
end
/-! a scope through which the run goes without a goto -/
section
variable {P : Program} {F : Fence} {n : Nat} {a : Act} {w : World} {b : Frame} {k : List Item} {cs : List Frame}
theorem stepR_scope {c : Code} : step P (lone (b.atR a (.code (.scope c) :: k)) cs w) = .next (lone (b.atR a (.code c :: .inScope c :: k)) cs w) := by
  first | exact step_lone_go (by simp [stepG, stepG.exec, Frame.atR]) | (simp [Frame.atR, stepG]; done)
theorem stepR_inScope {c : Code} : step P (lone (b.atR a (.inScope c :: k)) cs w) = .next (lone (b.atR a k) cs w) := by
  first | exact step_lone_go (by simp [stepG, stepG.exec, Frame.atR]) | (simp [Frame.atR, stepG]; done)
theorem wpIn_scope {c : Code} {Q : Exit → Act → World → Prop} (h : c.wpIn F n P (Exit.noGoto Q) a w) : (Code.scope c).wpIn F n P Q a w := by
  intro b k cs hro hb hr
  have h0 : (lone (b.atR a (.code (.scope c) :: k)) cs w).fenced P F := fenced_calm hb hr rfl
  obtain ⟨e, a₁, w₁, hq, harr⟩ := h b (.inScope c :: k) cs hro hb hr
  cases e with
  | normal => exact ⟨.normal, a₁, w₁, hq, .head h0 stepR_scope (StepsIn.trans harr (.one (fenced_calm hb hr rfl) stepR_inScope))⟩
  | exit id =>
    have hx : exitTo id (.inScope c :: k) = exitTo id k := by simp [exitTo]
    exact ⟨_, a₁, w₁, hq, fun k' hk => .head h0 stepR_scope (harr.1 k' (by rw [hx]; exact hk)),
      fun hr' hk => let ⟨k₁, h1, h2⟩ := harr.2 hr' (by rw [hx]; exact hk); ⟨k₁, h1, .head h0 stepR_scope h2⟩⟩
  | goto l => exact hq.elim
  | ret => exact ⟨_, a₁, w₁, hq, .of_steps (.one h0 stepR_scope) harr⟩
  | panic ch => exact ⟨_, a₁, w₁, hq, .of_steps (.one h0 stepR_scope) harr⟩
  | outgrown => exact ⟨_, a₁, w₁, hq, .of_steps (.one h0 stepR_scope) harr⟩
end
def Scpd (Q : Exit → Fr → Hp → Prop) : Exit → Fr → Hp → Prop
  | .goto _, _, _ => False
  | e, f, h => Q e f h
theorem WP.scope {P : Program} {r : Option Nat} {Q : Exit → Fr → Hp → Prop} {f : Fr} {h : Hp} {c : Code} (H : WP P r c (Scpd Q) f h) : WP P r (.scope c) Q f h := by
  refine ⟨fun E R a w hf hs => wpIn_scope (wpIn_mono (H.run E R a w hf hs) ?_)⟩
  rintro e a w ⟨f, h, q, hf, hs⟩
  cases e with
  | goto l => exact q.elim
  | _ => exact ⟨f, h, q, hf, hs⟩
end Go.Proofs.YtipljeomgdomnaaGreatDoor
/- Ext -/
/-
  Calls of functions without a body; values in interfaces.
-/
namespace Go.Proofs.YtipljeomgdomnaaGreatDoor
open Go

section
variable {P : Program} {r : Option Nat} {f : Fr} {h : Hp} {d : Option Tmp} {ty : TypeId} {p : String} {af : Array Edge} {gd : Option (Nat × Bool)} {SL : List Blk} {T xT K E : TypeId} {x y : Operand} {v : Value}

theorem S1.extern {g : Nat} {fn : Func} {e : Array Value → Sem Value} {args : Array Operand} {argT : Array TypeId} {vs : List Value} {post : Value → Hp → Prop} (hf : P.funcs[g]? = some fn) (hname : (fn.name == "runtime.NumGoroutine") = false)
    (hb : fn.body.isNone = true) (hn : Extern.findNext fn = none) (he : Extern.find fn = some e) (ha : evs f args.toList = some vs)
    (H : ∀ (E : World) (R : List Blk) (w : World), Sat E (h.flatten ++ R) w → ∃ v h' w', (e ⟨vs⟩).run P w = .ok v w' ∧ post v h' ∧ Sat E (h'.flatten ++ R) w') : S1 P r ⟨d, .call ⟨.value (.func g), args, argT⟩, ty, p, af, gd⟩ f h post :=
  S1.ofRun (by intro c; simp) fun E' R ρ w k' st => by
    obtain ⟨v, h', w', hr, hp, st'⟩ := H E' R w st
    refine ⟨v, h', w', ?_, hp, st'⟩
    have := run_callFunc_extern hf hname hb hn he ⟨vs⟩ w
    rw [hr] at this
    simp only [execOp, resolve, k' (.func g) (.func (.func g) #[] #[]) rfl, evs_arr k' ha, Sem.run_bind, Deferred.ofValue, Sem.run_pure, Result.andThen_ok, invoke]
    simpa using this
theorem S0.mkI (hc : P.concrete T = true) (hx : ev f x = some v) : S0 P f SL ⟨d, .makeInterface T x, ty, p, af, gd⟩ (.iface T v) :=
  S0.pure (by intro c; simp) (by intro c; simp) fun ρ w k' => by simp [execOp, k' _ _ hx, run_makeInterface (w := w) T v hc]
theorem S0.asMap [u : Und P T (.map K E)] (hx : ev f x = some (.iface T v)) : S0 P f SL ⟨d, .typeAssert x xT T false, ty, p, af, gd⟩ v :=
  S0.pure (by intro c; simp) (by intro c; simp) fun ρ w k' => by
    simp [execOp, k' _ _ hx, Instr.typeAssert, run_underlying u.eq]
/-- maps.clone -/
theorem S1.mapsClone {κ : Type} {ek : κ → Value} {g : Nat} {fn : Func} {args : Array Operand} {argT : Array TypeId} {m : Nat} {L : ML κ} {ck : Nat} (hf : P.funcs[g]? = some fn) (hname : (fn.name == "runtime.NumGoroutine") = false)
    (hb : fn.body.isNone = true) (hn : Extern.findNext fn = none) (he : Extern.find fn = some Extern.MapsClone.clone) (ha : evs f args.toList = some [.iface T (.map (some m))]) [hh : Has h m (mapO ek L ck)] :
    S1 P r ⟨d, .call ⟨.value (.func g), args, argT⟩, ty, p, af, gd⟩ f h (newv (fun b => .iface T (.map (some b))) (mapO ek L ck) h) :=
  S1.extern hf hname hb hn he ha fun E R w st => by
    have hm := st.has (k := hh)
    have hg : (getObj m).run P w = .ok (mapO ek L ck) w := by simp [getObj, Sem.run, hm]
    refine ⟨_, _, _, ?_, ⟨w.heap.size, rfl, rfl⟩, st.new _⟩
    have e : Extern.MapsClone.clone ⟨[.iface T (.map (some m))]⟩ = (getObj m >>= fun o => match o with
      | .map entries clock => (newObj (.map entries clock) >>= fun n => pure (.iface T (.map (some n))))
      | _ => stuck "maps.clone: a map expected") := rfl
    rw [e]
    simp [hg]
end

/-! rearranged blocks: by counting -/
noncomputable instance decBlk : DecidableEq Blk := fun a b => Classical.propDecidable (a = b)
/-- how often a block stands there -/
noncomputable def nOf (a : Blk) (l : List Blk) : Nat := l.count a
noncomputable def n1 (a b : Blk) : Nat := if b == a then 1 else 0
theorem nOf_app (a : Blk) (l m : List Blk) : nOf a (l ++ m) = nOf a l + nOf a m := List.count_append
theorem nOf_cons (a b : Blk) (l : List Blk) : nOf a (b :: l) = n1 a b + nOf a l := by unfold nOf n1; rw [List.count_cons]; omega
theorem nOf_nil (a : Blk) : nOf a [] = 0 := rfl
theorem pm {l m : List Blk} (h : ∀ a, nOf a l = nOf a m) : l.Perm m := List.perm_iff_count.2 h
theorem pm_of {l m : List Blk} (h : l.Perm m) (a : Blk) : nOf a l = nOf a m := h.count_eq a
end Go.Proofs.YtipljeomgdomnaaGreatDoor
