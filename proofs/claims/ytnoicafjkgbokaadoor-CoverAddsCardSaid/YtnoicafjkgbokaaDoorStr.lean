/-
  Strings: letters, cuts, comparisons, ranging.
-/
import Derived.Test.YtnoicafjkgbokaaDoorElem
namespace Go.Proofs.YtnoicafjkgbokaaDoor
open Go

/-- one text is ahead of another one -/
def ltS : Str → Str → Bool
  | _, [] => false
  | [], _ :: _ => true
  | a :: x, b :: y => decide (a < b) || (decide (a = b) && ltS x y)
theorem bytesLess_ltS : ∀ (x y : Str), Op.bytesLess x y = ltS x y
  | x, [] => by cases x <;> rfl
  | [], b :: y => rfl
  | a :: x, b :: y => by
    simp only [Op.bytesLess, ltS, bytesLess_ltS x y]
    by_cases h : a = b <;> simp [h]
theorem ba_toList (l : Str) : (⟨⟨l⟩⟩ : ByteArray).toList = l := by
  have key : ∀ (n i : Nat) (r : List UInt8), l.length - i = n → ByteArray.toList.loop ⟨⟨l⟩⟩ i r = r.reverse ++ l.drop i := by
    intro n
    induction n with
    | zero =>
      intro i r h
      unfold ByteArray.toList.loop
      have : ¬ i < (⟨⟨l⟩⟩ : ByteArray).size := by show ¬ i < l.length; omega
      rw [if_neg this, List.drop_eq_nil_of_le (by omega)]; simp
    | succ n ih =>
      intro i r h
      unfold ByteArray.toList.loop
      have hlt : i < l.length := by omega
      have : i < (⟨⟨l⟩⟩ : ByteArray).size := hlt
      rw [if_pos this, ih (i + 1) _ (by omega)]
      have e : (⟨⟨l⟩⟩ : ByteArray).get! i = l[i] := by
        show (Array.mk l)[i]! = l[i]
        simp [hlt]
      rw [e, List.reverse_cons, List.append_assoc, List.singleton_append, ← List.drop_eq_getElem_cons hlt]
  have := key l.length 0 [] rfl
  simpa [ByteArray.toList] using this
theorem sv_size (l : Str) : (⟨⟨l⟩⟩ : ByteArray).size = l.length := rfl
theorem sv_get? (l : Str) (i : Nat) : (⟨⟨l⟩⟩ : ByteArray)[i]? = l[i]? := by
  by_cases h : i < l.length
  · have h2 : i < (⟨⟨l⟩⟩ : ByteArray).size := h
    rw [getElem?_pos (⟨⟨l⟩⟩ : ByteArray) i h2, List.getElem?_eq_getElem h]; rfl
  · have h2 : ¬ i < (⟨⟨l⟩⟩ : ByteArray).size := h
    rw [getElem?_neg (⟨⟨l⟩⟩ : ByteArray) i h2, List.getElem?_eq_none (by omega)]
theorem sv_extract (l : Str) (i j : Nat) : (⟨⟨l⟩⟩ : ByteArray).extract i j = ⟨⟨(l.drop i).take (j - i)⟩⟩ := by
  apply ByteArray.ext
  rw [ByteArray.data_extract]
  apply Array.toList_inj.1
  simp [List.extract_eq_take_drop]

def cmpSt (op : BinOp) (x y : Str) : Option Bool :=
  match op with
  | .eql => some (decide (x = y)) | .neq => some (!decide (x = y)) | .lss => some (ltS x y) | .geq => some (!ltS x y) | .gtr => some (!ltS x y && !decide (x = y)) | .leq => some (ltS x y || decide (x = y))
  | _ => none

section
variable {P : Program} {r : Option Nat} {Q : Exit → Fr → Hp → Prop} {f : Fr} {h h' : Hp} {d : Option Tmp} {ty : TypeId} {p : String} {af : Array Edge} {gd : Option (Nat × Bool)} {S : Hp} {SL : List Blk}
variable {T E : TypeId} {x y z : Operand}

theorem S0.cmpS {a b : Str} {op T U} (hx : ev f x = some (sv a)) (hy : ev f y = some (sv b)) {c : Bool} (hb : cmpSt op a b = some c) : S0 P f SL ⟨d, .binOp op T x y U, ty, p, af, gd⟩ (.bool c) :=
  S0.pure (by intro c; simp) (by intro c; simp) fun ρ w k' => by
    have e1 : ((⟨⟨a⟩⟩ : ByteArray).toList == (⟨⟨b⟩⟩ : ByteArray).toList) = decide (a = b) := by
      rw [ba_toList, ba_toList, Bool.eq_iff_iff]; simp
    have e2 : Op.bytesLess (⟨⟨a⟩⟩ : ByteArray).toList (⟨⟨b⟩⟩ : ByteArray).toList = ltS a b := by rw [ba_toList, ba_toList, bytesLess_ltS]
    cases op <;> simp only [cmpSt, Option.some.injEq, reduceCtorEq] at hb <;> subst hb <;> simp only [execOp, k' _ _ hx, k' _ _ hy, eqGuard, binOp, Op.stringOp, e1, e2] <;> simp
theorem S0.addS {a b : Str} {T U} (hx : ev f x = some (sv a)) (hy : ev f y = some (sv b)) (hl : a.length + b.length ≤ 9223372036854775807) : S0 P f SL ⟨d, .binOp .add T x y U, ty, p, af, gd⟩ (sv (a ++ b)) :=
  S0.pure (by intro c; simp) (by intro c; simp) fun ρ w k' => by
    have h1 : ¬ ((((⟨⟨a⟩⟩ : ByteArray).size + (⟨⟨b⟩⟩ : ByteArray).size : Nat) : Int) > IntKind.i64.max) := by
      have : IntKind.i64.max = 9223372036854775807 := rfl
      rw [this, sv_size, sv_size]; omega
    have e : (⟨⟨a⟩⟩ : ByteArray) ++ ⟨⟨b⟩⟩ = ⟨⟨a ++ b⟩⟩ := by
      apply ByteArray.ext
      rw [ByteArray.data_append]; simp
    simp only [execOp, k' _ _ hx, k' _ _ hy, eqGuard, binOp, Op.stringOp, h1, if_false, e]; simp
theorem S0.indexSt {l : Str} {i : Nat} {c : UInt8} [kk : Und P T .string] (hx : ev f x = some (sv l)) (hy : ev f y = some (.int .i64 (i : Int))) (hi : l[i]? = some c) : S0 P f SL ⟨d, .index T x y, ty, p, af, gd⟩ (.int .u8 (c.toNat : Int)) :=
  S0.pure (by intro c; simp) (by intro c; simp) fun ρ w k' => by
    simp only [execOp, k' _ _ hx, k' _ _ hy, Instr.index, asIntOf, Sem.run_bind, Sem.run_pure, Result.andThen_ok, run_underlying kk.eq]
    rw [if_pos (by omega), Int.toNat_natCast, sv_get?, hi]
    rfl
theorem S0.sliceSt {l : Str} {lo hi : Option Operand} {i j : Nat} [kk : Und P T .string] (hx : ev f x = some (sv l))
    (hlo : match lo with | none => i = 0 | some y => ev f y = some (.int .i64 i)) (hhi : match hi with | none => j = l.length | some y => ev f y = some (.int .i64 j)) (hij : i ≤ j ∧ j ≤ l.length) :
    S0 P f SL ⟨d, .slice T x lo hi none, ty, p, af, gd⟩ (sv ((l.drop i).take (j - i))) :=
  S0.pure (by intro c; simp) (by intro c; simp) fun ρ w k' => by
    obtain ⟨h1, h2⟩ := hij
    have e1 : ∀ (bd : BoundsCode) (m : Nat), j ≤ m → (Instr.sliceBound (.int .i64 j) m bd).run P w = .ok j w := fun bd m hm => by
      simp only [Instr.sliceBound, asIntOf, Sem.run_bind, Sem.run_pure, Result.andThen_ok]
      rw [if_pos ⟨by omega, by omega⟩]; simp
    have e2 : ∀ (bd : BoundsCode) (m : Nat), i ≤ m → (Instr.sliceBound (.int .i64 i) m bd).run P w = .ok i w := fun bd m hm => by
      simp only [Instr.sliceBound, asIntOf, Sem.run_bind, Sem.run_pure, Result.andThen_ok]
      rw [if_pos ⟨by omega, by omega⟩]; simp
    have eb : (Instr.sliceBounds false l.length l.length (lo.map ρ) (hi.map ρ) none).run P w = .ok (i, j, l.length) w := by
      cases lo with
      | none => cases hi with
        | none => simp only at hlo hhi; subst hlo hhi; simp [Instr.sliceBounds]
        | some yh => simp only at hlo hhi; subst hlo; simp [Instr.sliceBounds, k' _ _ hhi, e1 _ _ h2]
      | some yl => cases hi with
        | none => simp only at hlo hhi; subst hhi; simp [Instr.sliceBounds, k' _ _ hlo, e2 _ _ h1]
        | some yh => simp only at hlo hhi; simp [Instr.sliceBounds, k' _ _ hlo, k' _ _ hhi, e1 _ _ h2, e2 _ _ h1]
    simp only [execOp, k' _ _ hx, Instr.sliceAt, Sem.run_bind, run_underlying kk.eq, Result.andThen_ok, Instr.slice, Option.map_none]
    simp [sv_size, eb, sv_extract]
theorem S1.rangeSt {l : Str} [kk : Und P T .string] (hx : ev f x = some (sv l)) :
    S1 P r ⟨d, .range T x, ty, p, af, gd⟩ f h (newp (.stringIter ⟨⟨l⟩⟩ 0) h) :=
  S1.ofRun (by intro c; simp) fun E R ρ w k st => ⟨_, _, _, by simp [execOp, k _ _ hx, Instr.range, run_underlying kk.eq], ⟨_, rfl, rfl⟩, st.new _⟩
theorem decode_ascii {l : Str} {i : Nat} {c : UInt8} (h : l[i]? = some c) (hc : c.toNat < 128) : Utf8.decode ⟨⟨l⟩⟩ i = (c.toNat, 1) := by
  have hlt : i < l.length := (List.getElem?_eq_some_iff.1 h).1
  have e : (⟨⟨l⟩⟩ : ByteArray).get! (i + 0) = c := by
    show (Array.mk l)[i + 0]! = c
    rw [List.getElem?_eq_getElem hlt, Option.some.injEq] at h
    simp [hlt, h]
  unfold Utf8.decode
  simp only [e]
  rw [if_pos hc]
theorem decode_other {l : Str} {i : Nat} {c : UInt8} (h : l[i]? = some c) (hc : ¬ c.toNat < 128) : 128 ≤ (Utf8.decode ⟨⟨l⟩⟩ i).1 ∧ (Utf8.decode ⟨⟨l⟩⟩ i).1 < 2147483648 := by
  have hlt : i < l.length := (List.getElem?_eq_some_iff.1 h).1
  have e : (⟨⟨l⟩⟩ : ByteArray).get! (i + 0) = c := by
    show (Array.mk l)[i + 0]! = c
    rw [List.getElem?_eq_getElem hlt, Option.some.injEq] at h
    simp [hlt, h]
  have hb : c.toNat < 256 := c.toNat_lt
  unfold Utf8.decode
  simp only [e]
  rw [if_neg hc]
  have hr : Utf8.runeError = 65533 := rfl
  split
  · split
    · simp only; omega
    · simp [hr]
  · split
    · split
      · rename_i hv; simp only [ge_iff_le, Bool.and_eq_true, decide_eq_true_eq] at hv ⊢; omega
      · simp [hr]
    · split
      · split
        · rename_i hv; simp only [ge_iff_le, Bool.and_eq_true, decide_eq_true_eq] at hv ⊢; omega
        · simp [hr]
      · simp [hr]
theorem S1.nextSt {it pos : Nat} {l : Str} {h2 : Nat → Hp} [hi : Has h it (.stringIter ⟨⟨l⟩⟩ pos)] [hu : ∀ q, Upd h it (.stringIter ⟨⟨l⟩⟩ pos) (.stringIter ⟨⟨l⟩⟩ q) (h2 q)] (hx : ev f x = some (.pointer (some ⟨it, 0, none⟩))) (hlt : pos < l.length) :
    S1 P r ⟨d, .next x true, ty, p, af, gd⟩ f h (is (.tuple ⟨[.bool true, .int .i64 (pos : Int), .int .i32 ((Utf8.decode ⟨⟨l⟩⟩ pos).1 : Int)]⟩) (h2 (pos + (Utf8.decode ⟨⟨l⟩⟩ pos).2))) :=
  S1.ofRun (by intro c; simp) fun E R ρ w k st => ⟨_, _, _, by
    have hm := st.has (k := hi)
    have e : (getObj it).run P w = .ok (.stringIter ⟨⟨l⟩⟩ pos) w := by simp [getObj, Sem.run, hm]
    simp only [execOp, k _ _ hx, Instr.next, Sem.run_bind, e, Result.andThen_ok, sv_size, hlt, if_true, run_setObj hm (by intro a b c; simp), Sem.run_pure, goInt], ⟨rfl, rfl⟩, st.upd (k := hu _)⟩
theorem S1.nextStEnd {it pos : Nat} {l : Str} [hi : Has h it (.stringIter ⟨⟨l⟩⟩ pos)] (hx : ev f x = some (.pointer (some ⟨it, 0, none⟩))) (hlt : ¬ pos < l.length) :
    S1 P r ⟨d, .next x true, ty, p, af, gd⟩ f h (is (.tuple ⟨[.bool false]⟩) h) :=
  S1.ofRun (by intro c; simp) fun E R ρ w k st => ⟨_, _, _, by
    have hm := st.has (k := hi)
    have e : (getObj it).run P w = .ok (.stringIter ⟨⟨l⟩⟩ pos) w := by simp [getObj, Sem.run, hm]
    simp only [execOp, k _ _ hx, Instr.next, Sem.run_bind, e, Result.andThen_ok, sv_size, hlt, if_false, Sem.run_pure], ⟨rfl, rfl⟩, st⟩
end
end Go.Proofs.YtnoicafjkgbokaaDoor
