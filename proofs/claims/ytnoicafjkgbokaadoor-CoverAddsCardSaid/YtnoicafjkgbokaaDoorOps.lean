/-
  The rules of the single operations.
-/
import Derived.Test.YtnoicafjkgbokaaDoorDraw
import Derived.WalkKit
namespace Go.Proofs.YtnoicafjkgbokaaDoor
open Go

class Und (P : Program) (T : TypeId) (d : outParam TypeDesc) : Prop where
  eq : P.underlying T = some d
class Inf (P : Program) (T : TypeId) (size bytes : outParam Nat) (zero : outParam Value) : Prop where
  eq : (P.info? T).map (fun i => (i.size, i.bytes, i.zero)) = some (size, bytes, some zero)

class HasC (c : List Blk) (b : Nat) (o : outParam Obj) : Prop where
  mem : (b, o) ∈ c
instance {b o c} : HasC ((b, o) :: c) b o := ⟨List.mem_cons_self⟩
instance (priority := low) {b o x c} [h : HasC c b o] : HasC (x :: c) b o := ⟨List.mem_cons_of_mem _ h.mem⟩
class Has (h : Hp) (b : Nat) (o : outParam Obj) : Prop where
  mem : (b, o) ∈ h.flatten
instance {b o c h} [k : HasC c b o] : Has (c :: h) b o := ⟨by simp [k.mem]⟩
instance (priority := low) {b o c h} [k : Has h b o] : Has (c :: h) b o := ⟨by have := k.mem; simp only [List.flatten_cons, List.mem_append]; exact .inr this⟩

/-- Block b's content is changed from o to o'. -/
class UpdC (c : List Blk) (b : Nat) (o : outParam Obj) (o' : Obj) (c' : outParam (List Blk)) : Prop where
  ex : ∃ p q, c = p ++ (b, o) :: q ∧ c' = p ++ (b, o') :: q
instance {b o o' c} : UpdC ((b, o) :: c) b o o' ((b, o') :: c) := ⟨[], c, rfl, rfl⟩
instance (priority := low) {b o o' x c c'} [k : UpdC c b o o' c'] : UpdC (x :: c) b o o' (x :: c') := ⟨by obtain ⟨p, q, rfl, rfl⟩ := k.ex; exact ⟨x :: p, q, rfl, rfl⟩⟩
class Upd (h : Hp) (b : Nat) (o : outParam Obj) (o' : Obj) (h' : outParam Hp) : Prop where
  ex : ∃ p q, h.flatten = p ++ (b, o) :: q ∧ h'.flatten = p ++ (b, o') :: q
instance {b o o' c c' h} [k : UpdC c b o o' c'] : Upd (c :: h) b o o' (c' :: h) := ⟨by obtain ⟨p, q, rfl, rfl⟩ := k.ex; exact ⟨p, q ++ h.flatten, by simp, by simp⟩⟩
instance (priority := low) {b o o' c h h'} [k : Upd h b o o' h'] : Upd (c :: h) b o o' (c :: h') := ⟨by obtain ⟨p, q, e1, e2⟩ := k.ex; exact ⟨c ++ p, q, by simp [e1], by simp [e2]⟩⟩

/-- 'l.set i v', by instances: written out. -/
class SetL (l : List Value) (i : Nat) (v : Value) (l' : outParam (List Value)) : Prop where
  eq : l.set i v = l' ∧ i < l.length
instance {a l v} : SetL (a :: l) 0 v (v :: l) := ⟨rfl, by simp⟩
instance {a l v} : SetL (a :: l) (0 + 0) v (v :: l) := ⟨rfl, by simp⟩
instance {a l i v l'} [k : SetL l i v l'] : SetL (a :: l) (i + 1) v (a :: l') := ⟨by have := k.eq.1; simp [this], by have := k.eq.2; simp; omega⟩

class TakeL (n : Nat) (l : List Value) (l' : outParam (List Value)) : Prop where
  eq : l.take n = l' ∧ l'.length = n
instance {l} : TakeL 0 l [] := ⟨by simp, rfl⟩
instance {n a l l'} [k : TakeL n l l'] : TakeL (n + 1) (a :: l) (a :: l') := ⟨by simp [k.eq.1], by simp [k.eq.2]⟩
class SubL (i n : Nat) (l : List Value) (l' : outParam (List Value)) : Prop where
  eq : (l.drop i).take n = l' ∧ l'.length = n
instance {n l l'} [k : TakeL n l l'] : SubL 0 n l l' := ⟨by simpa using k.eq⟩
instance {n l l'} [k : TakeL n l l'] : SubL (0 + 0) n l l' := ⟨by simpa using k.eq⟩
instance {i n a l l'} [k : SubL i n l l'] : SubL (i + 1) n (a :: l) l' := ⟨by simpa using k.eq⟩

def isAggD : TypeDesc → Bool
  | .struct _ | .array _ _ => true
  | _ => false

def cellV : Value → Bool
  | .agg _ | .tuple _ => false
  | _ => true

theorem cellV_cells {v : Value} (h : cellV v = true) : v.cells = #[v] := by cases v <;> first | rfl | cases h

abbrev cel (l : List Value) (T : TypeId) : Obj := .cells ⟨l⟩ T (0, 0)

section
variable {P : Program} {r : Option Nat} {Q : Exit → Fr → Hp → Prop} {f : Fr} {h : Hp} {E w : World} {R : List Blk}

theorem Sat.has (st : Sat E (h.flatten ++ R) w) {b : Nat} {o : Obj} [k : Has h b o] : w.heap[b]? = some o :=
  st.cell _ (List.mem_append.2 (.inl k.mem))

theorem Sat.lt {l : List Blk} (st : Sat E l w) {b : Nat} {o : Obj} (k : (b, o) ∈ l) : b < w.heap.size := by
  have := st.cell _ k
  exact (Array.getElem?_eq_some_iff.1 this).1

/-- A new block. -/
theorem Sat.new (st : Sat E (h.flatten ++ R) w) (o : Obj) : Sat E ((([(w.heap.size, o)] : List Blk) :: h).flatten ++ R) { w with heap := w.heap.push o } := by
  refine ⟨?_, ?_, st.tape, st.os, st.out, st.drawn, ?_⟩
  · have hn : w.heap.size ∉ (h.flatten ++ R).map Prod.fst := by
      intro hm
      obtain ⟨p, hp, e⟩ := List.mem_map.1 hm
      have := st.lt (b := p.1) (o := p.2) hp
      omega
    simpa using ⟨by simpa using hn, by simpa using st.nodup⟩
  · intro p hp
    simp only [List.flatten_cons, List.cons_append, List.nil_append, List.mem_cons] at hp
    rcases hp with rfl | hp
    · simp
    · have := st.cell p hp
      have hlt := st.lt (b := p.1) (o := p.2) hp
      rw [Array.getElem?_push_lt hlt]
      rw [Array.getElem?_eq_getElem hlt] at this
      exact this
  · simp; exact Nat.le_succ_of_le st.size

theorem Sat.upd (st : Sat E (h.flatten ++ R) w) {b : Nat} {o o' : Obj} {h' : Hp} [k : Upd h b o o' h'] : Sat E (h'.flatten ++ R) { w with heap := w.heap.setIfInBounds b o' } := by
  obtain ⟨p, q, e1, e2⟩ := k.ex
  have hk : (h'.flatten ++ R).map Prod.fst = (h.flatten ++ R).map Prod.fst := by simp [e1, e2]
  have nd := st.nodup
  refine ⟨hk ▸ nd, ?_, st.tape, st.os, st.out, st.drawn, by simpa using st.size⟩
  intro x hx
  have hb : (b, o) ∈ h.flatten ++ R := by simp [e1]
  have hblt := st.lt hb
  rw [e2] at hx
  rw [e1] at nd
  simp only [List.append_assoc, List.cons_append, List.map_append, List.map_cons] at nd
  have nd' := List.nodup_append.1 nd
  simp only [List.append_assoc, List.cons_append, List.mem_append, List.mem_cons] at hx
  rcases hx with hx | rfl | hx
  · have hne : x.1 ≠ b := fun e => nd'.2.2 x.1 (List.mem_map.2 ⟨x, hx, rfl⟩) b (by simp) e
    rw [Array.getElem?_setIfInBounds_ne (Ne.symm hne)]
    exact st.cell x (by simp [e1, hx])
  · simp [hblt]
  · have hne : x.1 ≠ b := by
      intro e
      have := (List.nodup_cons.1 nd'.2.1).1
      apply this
      rw [← e, ← List.map_append]
      exact List.mem_map.2 ⟨x, by simpa using hx, rfl⟩
    rw [Array.getElem?_setIfInBounds_ne (Ne.symm hne)]
    exact st.cell x (by rcases hx with hx | hx <;> simp [e1, hx])

theorem Sat.draw (st : Sat E (h.flatten ++ R) w) : Sat E (h.flatten ++ R) { w with drawn := w.drawn + 1 } :=
  ⟨st.nodup, st.cell, st.tape, st.os, st.out, Nat.le_succ_of_le st.drawn, st.size⟩

abbrev is (v : Value) (h : Hp) : Value → Hp → Prop := fun v' h' => v' = v ∧ h' = h
/-- a new block, pointed to -/
abbrev newp (o : Obj) (h : Hp) : Value → Hp → Prop := fun v' h' => ∃ b, v' = .pointer (some ⟨b, 0, none⟩) ∧ h' = [(b, o)] :: h

theorem WO.det {o : Oper} {os : List GOp} {v : Value} {h' : Hp} (hs : S1 P r o f h (is v h')) (hd : fits o.dst f = true) (H : WO P r os Q (f.put o.dst v) h') : WO P r ((o, none) :: os) Q f h :=
  WO.step hd hs fun _ _ ⟨e1, e2⟩ => by rw [e1, e2]; exact H
theorem WO.new {o : Oper} {os : List GOp} {ob : Obj} (hs : S1 P r o f h (newp ob h)) (hd : fits o.dst f = true) (H : ∀ b, WO P r os Q (f.put o.dst (.pointer (some ⟨b, 0, none⟩))) ([(b, ob)] :: h)) : WO P r ((o, none) :: os) Q f h :=
  WO.step hd hs fun _ _ ⟨b, e1, e2⟩ => by rw [e1, e2]; exact H b

/-- An operation that comes to a value; where the world goes, 'Sat' says. -/
theorem S1.ofRun {o : Oper} {post : Value → Hp → Prop} (hop : ∀ c, o.op ≠ .defer c)
    (H : ∀ (E : World) (R : List Blk) (ρ : Operand → Value) (w : World), (∀ x v, ev f x = some v → ρ x = v) → Sat E (h.flatten ++ R) w → ∃ v h' w', (execOp ρ o).run P w = .ok (.value v) w' ∧ post v h' ∧ Sat E (h'.flatten ++ R) w') : S1 P r o f h post := by
  refine ⟨fun E R a w next Q hx st k => ⟨fun _ _ => trivial, ?_⟩⟩
  rw [Oper.semAt_eq _ _ _ hop]
  obtain ⟨v, h', w', hr, hp, st'⟩ := H E R a.eval w hx st
  rw [hr]
  exact k v h' w' hp st'

/-- An operation that ends in no value ('skip'): a store. -/
theorem S1.ofSkip {o : Oper} {h' : Hp} (hop : ∀ c, o.op ≠ .defer c)
    (H : ∀ (E : World) (R : List Blk) (ρ : Operand → Value) (w : World), (∀ x v, ev f x = some v → ρ x = v) → Sat E (h.flatten ++ R) w → ∃ w', (execOp ρ o).run P w = .ok .skip w' ∧ Sat E (h'.flatten ++ R) w') : S1 P r o f h (is undef h') := by
  refine ⟨fun E R a w next Q hx st k => ⟨fun _ _ => trivial, ?_⟩⟩
  rw [Oper.semAt_eq _ _ _ hop]
  obtain ⟨w', hr, st'⟩ := H E R a.eval w hx st
  rw [hr]
  exact k undef h' w' ⟨rfl, rfl⟩ st'

theorem S1.of0 {o : Oper} {v : Value} (H : S0 P f h.flatten o v) : S1 P r o f h (is v h) :=
  S1.ofRun H.1 fun _ _ ρ w hx st => ⟨v, h, w, H.2.2 ρ w hx (fun p hp => st.cell p (List.mem_append.2 (.inl hp))), ⟨rfl, rfl⟩, st⟩
theorem WO.d0 {o : Oper} {os : List GOp} {v : Value} (hs : S0 P f h.flatten o v) (hd : fits o.dst f = true) (H : WO P r os Q (f.put o.dst v) h) : WO P r ((o, none) :: os) Q f h :=
  WO.det (S1.of0 hs) hd H

theorem evs_map {ρ : Operand → Value} (k : ∀ x u, ev f x = some u → ρ x = u) : ∀ {xs : List Operand} {vs : List Value}, evs f xs = some vs → xs.map ρ = vs
  | [], vs, hx => by simp only [evs, Option.some.injEq] at hx; subst hx; rfl
  | x :: xs, vs, hx => by
    simp only [evs] at hx
    cases h1 : ev f x with
    | none => rw [h1] at hx; cases hx
    | some v =>
      rw [h1] at hx
      cases h2 : evs f xs with
      | none => rw [h2] at hx; cases hx
      | some us =>
        rw [h2] at hx
        simp only [Option.some.injEq] at hx
        subst hx
        simp [k _ _ h1, evs_map k h2]
theorem evs_arr {ρ : Operand → Value} (k : ∀ x u, ev f x = some u → ρ x = u) {xs : Array Operand} {vs : List Value} (h : evs f xs.toList = some vs) : xs.map ρ = ⟨vs⟩ := by
  have := evs_map k h
  apply Array.toList_inj.1
  simpa using this

theorem S0.pure {S : List Blk} {o : Oper} {v : Value} (h1 : ∀ c, o.op ≠ .defer c) (h2 : ∀ c, o.op = .call c → ∃ b, c.callee = .builtin b)
    (H : ∀ (ρ : Operand → Value) (w : World), (∀ x u, ev f x = some u → ρ x = u) → (execOp ρ o).run P w = .ok (.value v) w) : S0 P f S o v :=
  ⟨h1, h2, fun ρ w k _ => H ρ w k⟩

variable {d : Option Tmp} {ty : TypeId} {p : String} {af : Array Edge} {gd : Option (Nat × Bool)} {S : Hp} {SL : List Blk}

theorem S0.move {x v} (hx : ev f x = some v) : S0 P f SL ⟨d, .move x, ty, p, af, gd⟩ v :=
  S0.pure (by intro c; simp) (by intro c; simp) fun ρ w k => by simp [execOp, k _ _ hx]
theorem S0.assign {x v} (hx : ev f x = some v) : S0 P f SL ⟨d, .assign x, ty, p, af, gd⟩ v :=
  S0.pure (by intro c; simp) (by intro c; simp) fun ρ w k => by simp [execOp, k _ _ hx]
theorem S0.pickT {c x y v} (hc : ev f c = some (.bool true)) (hx : ev f x = some v) : S0 P f SL ⟨d, .pick c x y, ty, p, af, gd⟩ v :=
  S0.pure (by intro c; simp) (by intro c; simp) fun ρ w k => by simp [execOp, k _ _ hx, k _ _ hc, asBool]
theorem S0.pickF {c x y v} (hc : ev f c = some (.bool false)) (hy : ev f y = some v) : S0 P f SL ⟨d, .pick c x y, ty, p, af, gd⟩ v :=
  S0.pure (by intro c; simp) (by intro c; simp) fun ρ w k => by simp [execOp, k _ _ hy, k _ _ hc, asBool]
theorem S0.nilCheck {x v} (hx : ev f x = some (.pointer (some v))) : S0 P f SL ⟨d, .nilCheck x, ty, p, af, gd⟩ (.pointer (some v)) :=
  S0.pure (by intro c; simp) (by intro c; simp) fun ρ w k => by simp [execOp, k _ _ hx]
theorem S0.nilCheckF {x g fi ca} (hx : ev f x = some (.func (.func g) fi ca)) : S0 P f SL ⟨d, .nilCheck x, ty, p, af, gd⟩ (.func (.func g) fi ca) :=
  S0.pure (by intro c; simp) (by intro c; simp) fun ρ w k => by simp [execOp, k _ _ hx]
theorem S0.extract {x i vs v} (hx : ev f x = some (.tuple vs)) (hv : vs.toList[i]? = some v) : S0 P f SL ⟨d, .extract x i, ty, p, af, gd⟩ v :=
  S0.pure (by intro c; simp) (by intro c; simp) fun ρ w k => by
    have hv' : vs[i]? = some v := by rw [← hv]; simp
    simp [execOp, k _ _ hx, Instr.extract, hv']
theorem S0.makeFunc {fn fi ca vs us} (hf : evs f fi.toList = some vs) (hc : evs f ca.toList = some us) : S0 P f SL ⟨d, .makeFunc fn fi ca, ty, p, af, gd⟩ (.func fn ⟨vs⟩ ⟨us⟩) :=
  S0.pure (by intro c; simp) (by intro c; simp) fun ρ w k => by simp [execOp, evs_arr k hf, evs_arr k hc, Instr.makeFunc]

/-! integers -/
def cmpI (op : BinOp) (m n : Int) : Option Bool :=
  match op with
  | .eql => some (decide (m = n)) | .neq => some (!decide (m = n)) | .lss => some (decide (m < n)) | .leq => some (decide (m ≤ n)) | .gtr => some (decide (n < m)) | .geq => some (decide (n ≤ m))
  | _ => none
theorem beq_dec (m n : Int) : (m == n) = decide (m = n) := by by_cases h : m = n <;> simp [h]
theorem S0.cmp {x y k m n op T U} (hx : ev f x = some (.int k m)) (hy : ev f y = some (.int k n)) {b : Bool}
    (hb : cmpI op m n = some b) : S0 P f SL ⟨d, .binOp op T x y U, ty, p, af, gd⟩ (.bool b) :=
  S0.pure (by intro c; simp) (by intro c; simp) fun ρ w k' => by
    cases op <;> simp only [cmpI, Option.some.injEq, reduceCtorEq] at hb <;> subst hb <;> simp [execOp, k' _ _ hx, k' _ _ hy, eqGuard, binOp, Op.intCmp, beq_dec, bne]
def ariI (op : BinOp) (m n : Int) : Option Int :=
  match op with
  | .add => some (m + n) | .sub => some (m - n) | .mul => some (m * n)
  | _ => none
theorem S0.ari {x y k m n op T U} (hx : ev f x = some (.int k m)) (hy : ev f y = some (.int k n)) {z z' : Int}
    (hb : ariI op m n = some z) (hz : k.wrap z = z') : S0 P f SL ⟨d, .binOp op T x y U, ty, p, af, gd⟩ (.int k z') :=
  S0.pure (by intro c; simp) (by intro c; simp) fun ρ w k' => by
    cases op <;> simp only [ariI, Option.some.injEq, reduceCtorEq] at hb <;> subst hb <;> subst hz <;> simp [execOp, k' _ _ hx, k' _ _ hy, eqGuard, binOp, Op.intArith]
theorem wrap_i64 {n : Int} (h : -9223372036854775808 ≤ n ∧ n ≤ 9223372036854775807) : IntKind.i64.wrap n = n := by
  unfold IntKind.wrap IntKind.bits IntKind.signed
  simp only [Bool.true_and, decide_eq_true_eq]
  split <;> omega
theorem S0.not {x b T} (hx : ev f x = some (.bool b)) : S0 P f SL ⟨d, .unOp .not T x, ty, p, af, gd⟩ (.bool !b) :=
  S0.pure (by intro c; simp) (by intro c; simp) fun ρ w k => by simp [execOp, k _ _ hx, Op.unary]
theorem run_equalInB {T} [k : Und P T .bool] (n : Nat) (a b : Bool) (w : World) : (Op.equalIn (n + 1) T (.bool a) (.bool b)).run P w = .ok (a == b) w := by
  simp only [Op.equalIn, Sem.run_bind, run_underlying k.eq, Result.andThen_ok, Sem.run_pure]
theorem run_equalB {T} [k : Und P T .bool] (a b : Bool) (w : World) : (Op.equal T (.bool a) (.bool b)).run P w = .ok (a == b) w := run_equalInB 9999 a b w
theorem run_equalInP {T e} [k : Und P T (.pointer e)] (n : Nat) (a b : Option Addr) (hn : (a.isNone || b.isNone) = true) (w : World) : (Op.equalIn (n + 1) T (.pointer a) (.pointer b)).run P w = .ok (a.isNone && b.isNone) w := by
  cases a <;> cases b <;> simp at hn <;> simp only [Op.equalIn, Sem.run_bind, run_underlying k.eq, Result.andThen_ok, Sem.run_pure] <;> rfl
theorem run_equalP {T e} [k : Und P T (.pointer e)] (a b : Option Addr) (hn : (a.isNone || b.isNone) = true) (w : World) : (Op.equal T (.pointer a) (.pointer b)).run P w = .ok (a.isNone && b.isNone) w := run_equalInP 9999 a b hn w
theorem S0.cmpB {x y m n op T U} [Und P T .bool] (hx : ev f x = some (.bool m)) (hy : ev f y = some (.bool n)) {b : Bool}
    (hb : (match op with | .eql => some (m == n) | .neq => some (!(m == n)) | _ => none) = some b) : S0 P f SL ⟨d, .binOp op T x y U, ty, p, af, gd⟩ (.bool b) :=
  S0.pure (by intro c; simp) (by intro c; simp) fun ρ w k' => by
    cases op <;> simp only [Option.some.injEq, reduceCtorEq] at hb <;> subst hb <;> simp [execOp, k' _ _ hx, k' _ _ hy, eqGuard, binOp, run_equalB]
/-- a pointer held against nil -/
theorem S0.nilP {x y a b op T U e} [Und P T (.pointer e)] (hx : ev f x = some (.pointer a)) (hy : ev f y = some (.pointer b)) (hn : (a.isNone || b.isNone) = true) {c : Bool}
    (hb : (match op with | .eql => some (a.isNone && b.isNone) | .neq => some (!(a.isNone && b.isNone)) | _ => none) = some c) : S0 P f SL ⟨d, .binOp op T x y U, ty, p, af, gd⟩ (.bool c) :=
  S0.pure (by intro c; simp) (by intro c; simp) fun ρ w k' => by
    cases op <;> simp only [Option.some.injEq, reduceCtorEq] at hb <;> subst hb <;> simp [execOp, k' _ _ hx, k' _ _ hy, eqGuard, binOp, run_equalP a b hn]

theorem S0.convI {x k n S D k0 z} [Und P S (.int k0)] [Und P D (.int k)] (hx : ev f x = some (.int k0 n)) (hz : k.wrap n = z) : S0 P f SL ⟨d, .convert S D x, ty, p, af, gd⟩ (.int k z) :=
  S0.pure (by intro c; simp) (by intro c; simp) fun ρ w k' => by subst hz; simp [execOp, k' _ _ hx, convert, Conv.intToInt, run_underlying (Und.eq (P := P) (T := S)), run_underlying (Und.eq (P := P) (T := D))]

/-! fields -/
class Fld (P : Program) (T : TypeId) (i : Nat) (off : outParam Nat) (U : outParam TypeId) : Prop where
  ex : ∃ fs g, P.underlying T = some (.struct fs) ∧ fs[i]? = some g ∧ g.offset = off ∧ g.type = U
theorem run_ti {T i} (h : P.info? T = some i) (w : World) : (typeInfo T).run P w = .ok i w := by
  simp [typeInfo, program, Sem.run, Sem.run_bind, h]
theorem run_sizeOf {T sz by_ z} [k : Inf P T sz by_ z] (w : World) : (sizeOf T).run P w = .ok sz w := by
  have := k.eq
  cases hi : P.info? T with
  | none => rw [hi] at this; cases this
  | some i =>
    rw [hi] at this
    simp only [Option.map_some, Option.some.injEq, Prod.mk.injEq] at this
    simp [sizeOf, run_ti hi, this.1]
theorem run_zeroV {T sz by_ z} [k : Inf P T sz by_ z] (w : World) : (zeroValue T).run P w = .ok z w := by
  have := k.eq
  cases hi : P.info? T with
  | none => rw [hi] at this; cases this
  | some i =>
    rw [hi] at this
    simp only [Option.map_some, Option.some.injEq, Prod.mk.injEq] at this
    simp [zeroValue, run_ti hi, this.2.2]
theorem run_isAggD {T D} (k : P.underlying T = some D) (w : World) : (isAgg T).run P w = .ok (isAggD D) w := by
  simp only [isAgg, Sem.run_bind, run_underlying k, Result.andThen_ok]
  cases D <;> rfl
theorem S0.fieldAddr {x T i b o off U sz by_ z} [k : Fld P T i off U] [s : Inf P U (sz + 1) by_ z] (hx : ev f x = some (.pointer (some ⟨b, o, none⟩))) : S0 P f SL ⟨d, .fieldAddr T x i, ty, p, af, gd⟩ (.pointer (some ⟨b, o + off, none⟩)) :=
  S0.pure (by intro c; simp) (by intro c; simp) fun ρ w k' => by
    obtain ⟨fs, g, hu, hg, rfl, rfl⟩ := k.ex
    simp only [execOp, k' _ _ hx, Instr.fieldAt, Sem.run_bind, run_underlying hu, Result.andThen_ok, hg, Instr.sureAddr, Sem.run_pure, fieldPlace, run_sizeOf (k := s)]
    simp only [Addr.add]
    split <;> simp_all
theorem S0.fieldAddr0 {x T i b off U sz by_ z} [k : Fld P T i off U] [s : Inf P U (sz + 1) by_ z] (hx : ev f x = some (.pointer (some ⟨b, 0, none⟩))) : S0 P f SL ⟨d, .fieldAddr T x i, ty, p, af, gd⟩ (.pointer (some ⟨b, off, none⟩)) := by
  have := S0.fieldAddr (P := P) (SL := SL) (d := d) (ty := ty) (p := p) (af := af) (gd := gd) (k := k) (s := s) hx
  simpa using this

/-! loads -/
class Sca (P : Program) (T : TypeId) : Prop where
  ex : ∃ D, P.underlying T = some D ∧ isAggD D = false
class Agg (P : Program) (T : TypeId) : Prop where
  ex : ∃ D, P.underlying T = some D ∧ isAggD D = true
theorem cell_of {w : World} {b off : Nat} {l : List Value} {U fz v} (hb : w.heap[b]? = some (.cells ⟨l⟩ U fz)) (hv : l[off]? = some v) : w.cell? ⟨b, off, none⟩ = some v := by
  simp [World.cell?, hb, hv]
theorem S0.load {x T b off l U fz v} [hh : Has S b (.cells ⟨l⟩ U fz)] [s : Sca P T] (hx : ev f x = some (.pointer (some ⟨b, off, none⟩))) (hv : l[off]? = some v) : S0 P f S.flatten ⟨d, .load T x, ty, p, af, gd⟩ v := by
  refine ⟨by intro c; simp, by intro c; simp, fun ρ w k hS => ?_⟩
  obtain ⟨D, hD, hA⟩ := s.ex
  have hc := cell_of (hS _ hh.mem) hv
  simp [execOp, k _ _ hx, Instr.loadAt, Instr.sureAddr, loadVar, run_isAggD hD, hA, hc]
theorem run_loadCellsFrom {w : World} {b off : Nat} {l : List Value} {U fz} (hb : w.heap[b]? = some (.cells ⟨l⟩ U fz)) : ∀ (n i : Nat) (acc : Array Value), off + i + n ≤ l.length →
    (loadCellsFrom ⟨b, off, none⟩ i n acc).run P w = .ok (acc ++ ((l.drop (off + i)).take n).toArray) w
  | 0, i, acc, _ => by simp [loadCellsFrom]
  | n + 1, i, acc, hle => by
    have hlt : off + i < l.length := by omega
    have hc : w.cell? ((⟨b, off, none⟩ : Addr).add i) = some l[off + i] := by
      have : (⟨b, off, none⟩ : Addr).add i = ⟨b, off + i, none⟩ := by unfold Addr.add; split <;> simp_all
      rw [this]
      exact cell_of hb (by simp [hlt])
    simp only [loadCellsFrom, Sem.run_bind, run_load, hc, Result.andThen_ok]
    rw [run_loadCellsFrom hb n (i + 1) _ (by omega)]
    have e : l.drop (off + i) = l[off + i] :: l.drop (off + (i + 1)) := by rw [List.drop_eq_getElem_cons hlt]; rfl
    rw [e]
    simp
theorem S0.loadA {x T b off l U fz vs n by_ z} [hh : Has S b (.cells ⟨l⟩ U fz)] [s : Agg P T] [i : Inf P T n by_ z] (hx : ev f x = some (.pointer (some ⟨b, off, none⟩))) (hv : (l.drop off).take n = vs) (hn : vs.length = n) : S0 P f S.flatten ⟨d, .load T x, ty, p, af, gd⟩ (.agg ⟨vs⟩) := by
  refine ⟨by intro c; simp, by intro c; simp, fun ρ w k hS => ?_⟩
  obtain ⟨D, hD, hA⟩ := s.ex
  have hle : off + 0 + n ≤ l.length ∨ n = 0 := by
    rcases Nat.eq_zero_or_pos n with h0 | h0
    · exact .inr h0
    · left
      have h1 : ((l.drop off).take n).length = n := by rw [hv, hn]
      rw [List.length_take, List.length_drop] at h1
      omega
  rcases hle with hle | h0
  · simp [execOp, k _ _ hx, Instr.loadAt, Instr.sureAddr, loadVar, run_isAggD hD, hA, run_sizeOf (k := i), loadCells, run_loadCellsFrom (hS _ hh.mem) n 0 #[] hle, hv]
  · subst h0
    obtain rfl : vs = [] := List.length_eq_zero_iff.1 hn
    simp [execOp, k _ _ hx, Instr.loadAt, Instr.sureAddr, loadVar, run_isAggD hD, hA, run_sizeOf (k := i), loadCells, loadCellsFrom]

theorem S0.loadAL {x T b off l U fz vs n by_ z} [hh : Has S b (.cells ⟨l⟩ U fz)] [s : Agg P T] [i : Inf P T n by_ z] [q : SubL off n l vs] (hx : ev f x = some (.pointer (some ⟨b, off, none⟩))) : S0 P f S.flatten ⟨d, .load T x, ty, p, af, gd⟩ (.agg ⟨vs⟩) :=
  S0.loadA hx q.eq.1 q.eq.2

/-! new blocks -/
theorem S1.box {T x v l} (hx : ev f x = some v) (hl : v.cells = ⟨l⟩) : S1 P r ⟨d, .box T x, ty, p, af, gd⟩ f h (newp (cel l T) h) :=
  S1.ofRun (by intro c; simp) fun E R ρ w k st => ⟨_, _, _, by simp [execOp, Instr.box, newVar, newRow, k _ _ hx, hl], ⟨_, rfl, rfl⟩, st.new _⟩

/-! stores -/
theorem run_store1 {w : World} {b off : Nat} {l : List Value} {U v} (hb : w.heap[b]? = some (.cells ⟨l⟩ U (0, 0))) (hlt : off < l.length) (hv : cellV v = true) :
    (store ⟨b, off, none⟩ v).run P w = .ok () { w with heap := w.heap.setIfInBounds b (.cells ⟨l.set off v⟩ U (0, 0)) } := by
  have hc : w.cell? ⟨b, off, none⟩ = some l[off] := cell_of hb (by simp [hlt])
  have hf : w.frozen? ⟨b, off, none⟩ = false := by simp [World.frozen?, hb]
  have hw : w.setCell ⟨b, off, none⟩ v = { w with heap := w.heap.setIfInBounds b (.cells ⟨l.set off v⟩ U (0, 0)) } := by
    obtain ⟨hlt', hg⟩ := Array.getElem?_eq_some_iff.1 hb
    unfold World.setCell
    congr 1
    ext j hj1 hj2
    · simp
    · rw [Array.getElem_modify, Array.getElem_setIfInBounds (by simpa using hj2)]
      split
      · rename_i e
        subst e
        rw [hg]
        simp
      · rfl
  cases v <;> first | (simp [cellV] at hv; done) | (simp only [store, Sem.run, hc, hf, Bool.false_eq_true, if_false]; rw [hw])
theorem S1.store {T x y b off l U v by_ z l' h'} [hh : Has h b (.cells ⟨l⟩ U (0, 0))] [i : Inf P T 1 by_ z] (hx : ev f x = some (.pointer (some ⟨b, off, none⟩))) (hy : ev f y = some v) (hv : cellV v = true) [hs : SetL l off v l'] [hu : Upd h b (.cells ⟨l⟩ U (0, 0)) (.cells ⟨l'⟩ U (0, 0)) h'] :
    S1 P r ⟨d, .store T x y, ty, p, af, gd⟩ f h (is undef h') :=
  S1.ofSkip (by intro c; simp) fun E R ρ w k st => by
    have e0 : ∀ (a : Addr), a.add 0 = a := fun a => by simp [Addr.add]
    have hrun := run_store1 (P := P) (st.has (k := hh)) hs.eq.2 hv
    refine ⟨_, ?_, st.upd (k := hu)⟩
    simp only [execOp, k _ _ hx, k _ _ hy, Instr.storeAt, Instr.sureAddr, storeVar, Sem.run_bind, Sem.run_pure, Result.andThen_ok, run_sizeOf (k := i), cellV_cells hv]
    simp [storeCells, e0, hrun, hs.eq.1]

end
end Go.Proofs.YtnoicafjkgbokaaDoor
