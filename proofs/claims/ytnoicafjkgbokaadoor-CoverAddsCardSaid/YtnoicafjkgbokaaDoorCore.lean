/-
  The program logic of these proofs: judgements over abstract worlds; the heap as a list of chunks of blocks.
-/
import Derived.RangeFuncLeaves
import Derived.RangeFuncOwn
import Derived.Laws.Sem
import Derived.KernelRfl
namespace Go.Proofs.YtnoicafjkgbokaaDoor
open Go

abbrev Blk := Nat × Obj
abbrev Hp := List (List Blk)

def fen (r : Option Nat) : Fence := { fn := fun _ => True, depth := none, alive := false, round := r }

/-- World w holds the blocks h; nothing outside the heap differs from E, but for draws. -/
structure Sat (E : World) (h : List Blk) (w : World) : Prop where
  nodup : (h.map Prod.fst).Nodup
  cell : ∀ p ∈ h, w.heap[p.1]? = some p.2
  tape : w.tape = E.tape
  os : w.os = E.os
  out : w.output = E.output
  drawn : E.drawn ≤ w.drawn
  size : E.heap.size ≤ w.heap.size

def look (t : Nat) : List (Nat × Value) → Option Value
  | [] => none
  | (k, v) :: r => bif Nat.beq k t then some v else look t r

/-- What is known of a frame: the number of its slots, some slots, the deferred calls. -/
structure Fr where
  n : Nat
  s : List (Nat × Value)
  d : List Deferred

structure Fr.ok (f : Fr) (a : Act) : Prop where
  size : a.tmps.size = f.n
  slot : ∀ t v, look t f.s = some v → a.tmps[t]? = some v
  defs : a.defers = f.d

def Fr.put (f : Fr) (d : Option Tmp) (v : Value) : Fr :=
  match d with
  | some t => { f with s := (t, v) :: f.s }
  | none => f

def fits (d : Option Tmp) (f : Fr) : Bool :=
  match d with
  | some t => Nat.blt t f.n
  | none => true

def ev (f : Fr) : Operand → Option Value
  | .tmp t => look t f.s
  | .const v => some v
  | .global g => some (.pointer (some ⟨g, 0, none⟩))
  | .func g => some (.func (.func g) #[] #[])

def evs (f : Fr) : List Operand → Option (List Value)
  | [] => some []
  | x :: xs => match ev f x with
    | some v => match evs f xs with
      | some vs => some (v :: vs)
      | none => none
    | none => none

theorem Fr.ok.ev {f : Fr} {a : Act} (h : f.ok a) {x : Operand} {v : Value} (hx : ev f x = some v) : a.eval x = v := by
  cases x with
  | tmp t => simp only [YtnoicafjkgbokaaDoor.ev] at hx; have := h.slot _ _ hx; simp [Act.eval, Array.getD_eq_getD_getElem?, this]
  | const c => simp only [YtnoicafjkgbokaaDoor.ev, Option.some.injEq] at hx; exact hx
  | global g => simp only [YtnoicafjkgbokaaDoor.ev, Option.some.injEq] at hx; exact hx
  | func g => simp only [YtnoicafjkgbokaaDoor.ev, Option.some.injEq] at hx; exact hx

theorem Fr.ok.evs {f : Fr} {a : Act} (h : f.ok a) : ∀ {xs : List Operand} {vs : List Value}, evs f xs = some vs → xs.map a.eval = vs
  | [], vs, hx => by simp only [YtnoicafjkgbokaaDoor.evs, Option.some.injEq] at hx; subst hx; rfl
  | x :: xs, vs, hx => by
    simp only [YtnoicafjkgbokaaDoor.evs] at hx
    cases h1 : YtnoicafjkgbokaaDoor.ev f x with
    | none => rw [h1] at hx; cases hx
    | some v =>
      rw [h1] at hx
      cases h2 : YtnoicafjkgbokaaDoor.evs f xs with
      | none => rw [h2] at hx; cases hx
      | some us =>
        rw [h2] at hx
        simp only [Option.some.injEq] at hx
        subst hx
        simp [h.ev h1, h.evs h2]

theorem Fr.ok.put {f : Fr} {a : Act} (h : f.ok a) {d : Option Tmp} {v : Value} (hd : fits d f = true) : (f.put d v).ok (a.put d v) := by
  cases d with
  | none => exact h
  | some t =>
    have ht : t < a.tmps.size := by
      rw [h.size]; simp only [fits] at hd
      exact Nat.le_of_ble_eq_true hd
    refine ⟨by simp [Act.put, Fr.put, h.size], fun k u hk => ?_, by simp [Act.put, Fr.put, h.defs]⟩
    simp only [Fr.put, look] at hk
    simp only [Act.put]
    cases e : Nat.beq t k with
    | true =>
      rw [e] at hk
      obtain rfl := Nat.eq_of_beq_eq_true e
      simp only [cond_true, Option.some.injEq] at hk
      subst hk
      simp [ht]
    | false =>
      rw [e] at hk
      simp only [cond_false] at hk
      have hne : t ≠ k := fun he => by subst he; simp at e
      rw [Array.getElem?_setIfInBounds_ne hne]
      exact h.slot _ _ hk

/-- Less known: fine. -/
def covers (s : List (Nat × Value)) : List (Nat × Value) → Prop
  | [] => True
  | (k, v) :: r => look k s = some v ∧ covers s r

theorem covers_look {s : List (Nat × Value)} : ∀ {l : List (Nat × Value)}, covers s l → ∀ {t v}, look t l = some v → look t s = some v
  | [], _, t, v, h => by simp [look] at h
  | (k, u) :: r, hc, t, v, h => by
    simp only [look] at h
    cases e : Nat.beq k t with
    | true =>
      rw [e] at h
      obtain rfl := Nat.eq_of_beq_eq_true e
      simp only [cond_true, Option.some.injEq] at h
      subst h
      exact hc.1
    | false => rw [e] at h; exact covers_look hc.2 h

theorem Fr.ok.cov {f : Fr} {a : Act} (h : f.ok a) {l : List (Nat × Value)} (hc : covers f.s l) : ({ n := f.n, s := l, d := f.d } : Fr).ok a :=
  ⟨h.size, fun _ _ hl => h.slot _ _ (covers_look hc hl), h.defs⟩

theorem Sat.perm {E w : World} {h h' : List Blk} (hs : Sat E h w) (hp : h.Perm h') : Sat E h' w :=
  ⟨(hp.map _).nodup_iff.1 hs.nodup, fun p hp' => hs.cell p (hp.mem_iff.2 hp'), hs.tape, hs.os, hs.out, hs.drawn, hs.size⟩

theorem Sat.sub {E w : World} {h h' : List Blk} (hs : Sat E (h ++ h') w) : Sat E h w :=
  ⟨by have := hs.nodup; rw [List.map_append] at this; exact (List.nodup_append.1 this).1, fun p hp => hs.cell p (List.mem_append.2 (.inl hp)), hs.tape, hs.os, hs.out, hs.drawn, hs.size⟩

def lift (E : World) (R : List Blk) (Q : Exit → Fr → Hp → Prop) : Exit → Act → World → Prop :=
  fun e a w => ∃ f h, Q e f h ∧ f.ok a ∧ Sat E (h.flatten ++ R) w

structure WP (P : Program) (r : Option Nat) (c : Code) (Q : Exit → Fr → Hp → Prop) (f : Fr) (h : Hp) : Prop where
  run : ∀ (E : World) (R : List Blk) (a : Act) (w : World), f.ok a → Sat E (h.flatten ++ R) w → c.wpIn (fen r) 0 P (lift E R Q) a w

abbrev GOp := Oper × Option (Option Tmp × Bool)

def gateV (g : Option (Option Tmp × Bool)) (tmps : Array Value) : Bool :=
  match g with
  | none => true
  | some (t, want) => (match t.bind (tmps[·]?) with | some (.bool b) => some b | _ => none) == some want

def gof (ops : Array Oper) (o : Oper) : Option (Option Tmp × Bool) :=
  o.guard.map fun x => (((ops[x.1]?).bind (·.dst)), x.2)

def rs (ops : Array Oper) : List GOp := ops.toList.map fun o => (o, gof ops o)

def wpL (r : Option Nat) (P : Program) (Q : Exit → Act → World → Prop) : List GOp → Act → World → Prop
  | [], a, w => Q .normal a w
  | (o, g) :: os, a, w => if gateV g a.tmps then o.wpIn (fen r) 0 P a w (wpL r P Q os) Q else wpL r P Q os (a.put o.dst undef) w

theorem wanted_gate (ops : Array Oper) (o : Oper) (tmps : Array Value) : Region.wanted o (yielded ops tmps) = gateV (gof ops o) tmps := by
  unfold Region.wanted gof gateV yielded
  cases o.guard with
  | none => rfl
  | some x =>
    obtain ⟨j, b⟩ := x
    simp only [Option.map_some]
    generalize ((ops[j]?).bind (·.dst)).bind (tmps[·]?) = y
    rcases y with _ | (_ | _ | _ | _ | _ | _ | _ | _ | _ | _ | _ | _ | _ | _ | _) <;> rfl

theorem uponIn_mono {F : Fence} {n : Nat} {P : Program} {o : Oper} {a : Act} {next next' : Act → World → Prop} {Q : Exit → Act → World → Prop}
    (hn : ∀ a w, next a w → next' a w) {x : Result Next} (h : o.uponIn F n P a next Q x) : o.uponIn F n P a next' Q x := by
  cases x with
  | ok y w =>
    cases y with
    | value v => exact hn _ _ h
    | skip => exact hn _ _ h
    | defer d => exact hn _ _ h
    | enter f args => exact ⟨h.1, h.2.mono fun e w' he => by cases e with | returned v => exact hn _ _ he | panicked c => exact he | outgrown => exact he⟩
    | row row args => exact ⟨h.1, h.2.mono fun v w' he => hn _ _ he⟩
    | round l f tmps assign body => exact ⟨h.1, h.2.mono fun e w' he => by cases e with | returned v => exact hn _ _ he | panicked c => exact he | outgrown => exact he⟩
    | _ => exact h
  | halt hh w => cases hh <;> exact h

theorem wpL_ops {r : Option Nat} {P : Program} {ops : Array Oper} {Q : Exit → Act → World → Prop} :
    ∀ (l : List Nat) (a : Act) (w : World), wpL r P Q (l.filterMap fun i => (ops[i]?).map fun o => (o, gof ops o)) a w → wpOpsIn (fen r) 0 P ops Q l a w
  | [], a, w, h => h
  | i :: l, a, w, h => by
    simp only [wpOpsIn]
    cases ho : ops[i]? with
    | none => simp only [List.filterMap_cons, ho, Option.map_none] at h; exact wpL_ops l a w h
    | some o =>
      simp only [List.filterMap_cons, ho, Option.map_some, wpL] at h
      dsimp only
      rw [wanted_gate]
      cases hg : gateV (gof ops o) a.tmps with
      | true => simp only [hg, if_true] at h ⊢; exact ⟨h.1, uponIn_mono (fun a w => wpL_ops l a w) h.2⟩
      | false => simp only [hg, Bool.false_eq_true, if_false] at h ⊢; exact ⟨fun _ _ => trivial, wpL_ops l _ w h⟩

theorem range_rs (ops : Array Oper) : ((List.range ops.size).filterMap fun i => (ops[i]?).map fun o => (o, gof ops o)) = rs ops := by
  unfold rs
  generalize gof ops = g
  obtain ⟨l⟩ := ops
  simp only [List.size_toArray, List.getElem?_toArray]
  induction l with
  | nil => rfl
  | cons x l ih =>
    rw [List.length_cons, List.range_succ_eq_map, List.filterMap_cons]
    simp only [List.getElem?_cons_zero, Option.map_some, List.map_cons, List.cons.injEq, true_and]
    rw [List.filterMap_map]
    simpa [Function.comp_def] using ih

structure WO (P : Program) (r : Option Nat) (os : List GOp) (Q : Exit → Fr → Hp → Prop) (f : Fr) (h : Hp) : Prop where
  run : ∀ (E : World) (R : List Blk) (a : Act) (w : World), f.ok a → Sat E (h.flatten ++ R) w → wpL r P (lift E R Q) os a w

section
variable {P : Program} {r : Option Nat} {Q : Exit → Fr → Hp → Prop} {f : Fr} {h : Hp}

theorem WP.mono {c : Code} {Q' : Exit → Fr → Hp → Prop} (hq : ∀ e f h, Q e f h → Q' e f h) (H : WP P r c Q f h) : WP P r c Q' f h :=
  ⟨fun E R a w hf hs => wpIn_mono (H.run E R a w hf hs) fun _ _ _ ⟨f, h, q, x⟩ => ⟨f, h, hq _ _ _ q, x⟩⟩

theorem WP.region {id : Nat} {ops : Array Oper} (H : WO P r (rs ops) Q f h) : WP P r (.region id ops false) Q f h :=
  ⟨fun E R a w hf hs => wpIn_region (wpL_ops _ _ _ (by rw [range_rs]; exact H.run E R a w hf hs))⟩

def Then (N : Fr → Hp → Prop) (Q : Exit → Fr → Hp → Prop) : Exit → Fr → Hp → Prop
  | .normal, f, h => N f h
  | e, f, h => Q e f h

theorem lift_then {E : World} {R : List Blk} {y : Code} {e : Exit} {a : Act} {w : World} (hl : lift E R (Then (fun f h => WP P r y Q f h) Q) e a w) :
    Exit.then (y.wpIn (fen r) 0 P (lift E R Q)) (lift E R Q) e a w := by
  obtain ⟨f, h, q, hf, hs⟩ := hl
  cases e <;> first | exact q.run E R a w hf hs | exact ⟨f, h, q, hf, hs⟩

theorem WP.seq {x y : Code} (H : WP P r x (Then (fun f h => WP P r y Q f h) Q) f h) : WP P r (.seq x y) Q f h :=
  ⟨fun E R a w hf hs => wpIn_seq (wpIn_mono (H.run E R a w hf hs) fun _ _ _ hl => lift_then hl)⟩

theorem WP.skip (H : Q .normal f h) : WP P r .skip Q f h := ⟨fun _ _ _ _ hf hs => wpIn_skip ⟨f, h, H, hf, hs⟩⟩
theorem WP.label {l : Nat} (H : Q .normal f h) : WP P r (.label l) Q f h := ⟨fun _ _ _ _ hf hs => wpIn_label ⟨f, h, H, hf, hs⟩⟩
theorem WP.exit {id : Nat} (H : Q (.exit id) f h) : WP P r (.exit id) Q f h := ⟨fun _ _ _ _ hf hs => wpIn_exit ⟨f, h, H, hf, hs⟩⟩
theorem WP.ret (H : Q .ret f h) : WP P r .ret Q f h := ⟨fun _ _ _ _ hf hs => wpIn_ret ⟨f, h, H, hf, hs⟩⟩

def Blkd (id : Nat) (Q : Exit → Fr → Hp → Prop) : Exit → Fr → Hp → Prop
  | .exit i, f, h => if i = id then Q .normal f h else Q (.exit i) f h
  | e, f, h => Q e f h

theorem WP.block {id : Nat} {c : Code} (H : WP P r c (Blkd id Q) f h) : WP P r (.block id c) Q f h := by
  refine ⟨fun E R a w hf hs => wpIn_block (wpIn_mono (H.run E R a w hf hs) ?_)⟩
  rintro e a w ⟨f, h, q, hf, hs⟩
  cases e with
  | exit i =>
    simp only [Blkd] at q
    simp only [Exit.inBlock]
    by_cases hi : i = id
    · rw [if_pos hi] at q ⊢; exact ⟨f, h, q, hf, hs⟩
    · rw [if_neg hi] at q ⊢; exact ⟨f, h, q, hf, hs⟩
  | _ => exact ⟨f, h, q, hf, hs⟩

theorem WP.cond {c : Operand} {x y : Code} {t : Bool} (hc : ev f c = some (.bool t)) (ht : t = true → WP P r x Q f h) (hf : t = false → WP P r y Q f h) : WP P r (.cond c x y) Q f h := by
  refine ⟨fun E R a w ok hs => wpIn_cond_split (ok.ev hc) (fun e => (ht e).run E R a w ok hs) (fun e => (hf e).run E R a w ok hs)⟩

theorem WP.condT {c : Operand} {x y : Code} (hc : ev f c = some (.bool true)) (H : WP P r x Q f h) : WP P r (.cond c x y) Q f h :=
  WP.cond hc (fun _ => H) (fun e => by cases e)
theorem WP.condF {c : Operand} {x y : Code} (hc : ev f c = some (.bool false)) (H : WP P r y Q f h) : WP P r (.cond c x y) Q f h :=
  WP.cond hc (fun e => by cases e) (fun _ => H)
theorem WP.condP {c : Operand} {x y : Code} {p : Prop} [hp : Decidable p] (hc : ev f c = some (.bool (decide p))) (ht : p → WP P r x Q f h) (hf : ¬ p → WP P r y Q f h) : WP P r (.cond c x y) Q f h :=
  WP.cond hc (fun e => ht (of_decide_eq_true e)) (fun e => hf (of_decide_eq_false e))

/-- A loop: states s of whatever type; at each head the frame knows 'fr s', the heap is 'hh s'; what a round leaves beside that is let go. -/
theorem WP.loop {c : Code} {σ : Type} (inv : σ → Prop) (fr : σ → List (Nat × Value)) (hh : σ → Hp) (μ : σ → Nat) (s0 : σ) (h0 : inv s0) (hf : covers f.s (fr s0)) (hh0 : ∃ k : Hp, h.flatten.Perm ((hh s0).flatten ++ k.flatten))
    (round : ∀ s, inv s → WP P r c (Then (fun f' h' => ∃ s', inv s' ∧ μ s' < μ s ∧ (covers f'.s (fr s') ∧ f'.n = f.n ∧ f'.d = f.d) ∧ ∃ k : Hp, h'.flatten.Perm ((hh s').flatten ++ k.flatten)) Q) { n := f.n, s := fr s, d := f.d } (hh s)) :
    WP P r (.loop c) Q f h := by
  refine ⟨fun E R a w ok hs => ?_⟩
  have drop : ∀ (h h' k : Hp) (w : World), h.flatten.Perm (h'.flatten ++ k.flatten) → Sat E (h.flatten ++ R) w → Sat E (h'.flatten ++ R) w := fun h h' k w hp st => by
    have := st.perm (hp.append_right R)
    rw [List.append_assoc] at this
    have h2 : Sat E (h'.flatten ++ R ++ k.flatten) w := this.perm (by rw [List.append_assoc]; exact (List.perm_append_comm (l₁ := k.flatten) (l₂ := R)).append_left _)
    exact h2.sub
  obtain ⟨k0, hk0⟩ := hh0
  have hs := drop _ _ _ _ hk0 hs
  have key : ∀ (m : Nat) (a : Act) (w : World) (b : Frame) (k : List Item) (cs : List Frame), b.roundOf = (fen r).round → (fen r).fn b.fn → (fen r).room (cs.length + 1 + 0) →
      (∃ s, inv s ∧ μ s = m ∧ ({ n := f.n, s := fr s, d := f.d } : Fr).ok a ∧ Sat E ((hh s).flatten ++ R) w) →
      ∃ e a' w', lift E R Q e a' w' ∧ ArrivesIn (Machine.fenced P (fen r)) P (lone (b.atR a (.code c :: .inLoop c :: k)) cs w) b k cs e a' w' := by
    intro m
    induction m using Nat.strongRecOn with
    | _ m ih =>
      rintro a w b k cs hro hb hr ⟨s, hi, rfl, ok, hs⟩
      obtain ⟨e, a₁, w₁, ⟨f', h', q, ok', hs'⟩, harr⟩ := (round s hi).run E R a w ok hs b (.inLoop c :: k) cs hro hb hr
      cases e with
      | normal =>
        obtain ⟨s', hi', hlt, ⟨hcov, hn, hd⟩, k', hk'⟩ := q
        have ok'' : ({ n := f.n, s := fr s', d := f.d } : Fr).ok a₁ := by have := ok'.cov hcov; rw [hn, hd] at this; exact this
        obtain ⟨e₂, a₂, w₂, hq₂, harr₂⟩ := ih (μ s') hlt a₁ w₁ b k cs hro hb hr ⟨s', hi', rfl, ok'', drop _ _ _ _ hk' hs'⟩
        exact ⟨e₂, a₂, w₂, hq₂, .of_steps (StepsIn.trans harr (.one (fenced_calm hb hr rfl) stepR_inLoop)) harr₂⟩
      | exit id => exact ⟨_, a₁, w₁, ⟨f', h', q, ok', hs'⟩, .pass (x := .inLoop c) rfl (fun _ _ => .inl (by simp)) harr⟩
      | goto l => exact ⟨_, a₁, w₁, ⟨f', h', q, ok', hs'⟩, .pass (x := .inLoop c) rfl (fun _ _ => .inl (by simp)) harr⟩
      | ret => exact ⟨_, a₁, w₁, ⟨f', h', q, ok', hs'⟩, .pass (x := .inLoop c) rfl (fun _ _ => .inl (by simp)) harr⟩
      | panic ch => exact ⟨_, a₁, w₁, ⟨f', h', q, ok', hs'⟩, .pass (x := .inLoop c) rfl (fun _ _ => .inl (by simp)) harr⟩
      | outgrown => exact ⟨_, a₁, w₁, ⟨f', h', q, ok', hs'⟩, .pass (x := .inLoop c) rfl (fun _ _ => .inl (by simp)) harr⟩
  intro b k cs hro hb hr
  obtain ⟨e, a', w', hq, harr⟩ := key _ a w b k cs hro hb hr ⟨s0, h0, rfl, ok.cov hf, hs⟩
  exact ⟨e, a', w', hq, .of_steps (.one (fenced_calm hb hr rfl) stepR_loop) harr⟩

/-- Forget what is not wanted: frame and heap. -/
theorem WP.cut {c : Code} {x : Code} (M : Fr → Hp → Prop) (H1 : WP P r x (Then M Q) f h) (H2 : ∀ f h, M f h → WP P r c Q f h) : WP P r (.seq x c) Q f h :=
  WP.seq (H1.mono fun e f h q => by cases e <;> first | exact H2 _ _ q | exact q)

/-- A cut behind x: states s; the frame knows 'fr s', the heap holds 'hh s'. -/
theorem WP.cutS {x y : Code} {σ : Type} (I : σ → Prop) (fr : σ → List (Nat × Value)) (hh : σ → Hp)
    (H1 : WP P r x (Then (fun f' h' => ∃ s, I s ∧ (covers f'.s (fr s) ∧ f'.n = f.n ∧ f'.d = f.d) ∧ ∃ k : Hp, h'.flatten.Perm ((hh s).flatten ++ k.flatten)) Q) f h)
    (H2 : ∀ s, I s → WP P r y Q { n := f.n, s := fr s, d := f.d } (hh s)) : WP P r (.seq x y) Q f h := by
  refine WP.seq (H1.mono ?_)
  intro e f' h' q
  cases e with
  | normal =>
    obtain ⟨s, hi, ⟨hc, hn, hd⟩, k, hp⟩ := q
    have H := H2 s hi
    refine ⟨fun E R a w ok hs => ?_⟩
    have ok' := ok.cov hc
    rw [hn, hd] at ok'
    refine H.run E R a w ok' ?_
    have := hs.perm (h' := ((hh s).flatten ++ R) ++ k.flatten) ((hp.append_right R).trans (by rw [List.append_assoc, List.append_assoc]; exact (List.perm_append_comm (l₁ := k.flatten) (l₂ := R)).append_left _))
    exact this.sub
  | _ => exact q

theorem WP.cutT {x y : Code} {σ : Type} (I : σ → Prop) (fr : σ → List (Nat × Value)) (hh : σ → Hp)
    (H1 : WP P r x (Then (fun f' h' => ∃ s, I s ∧ (covers f'.s (fr s) ∧ f'.n = f.n ∧ f'.d = f.d) ∧ ∃ k : Hp, h'.flatten.Perm ((hh s).flatten ++ k.flatten)) Q) f h)
    (H2 : ∀ s, I s → WP P r y Q { n := f.n, s := fr s, d := f.d } (hh s)) : WP P r x (Then (fun f h => WP P r y Q f h) Q) f h := by
  refine H1.mono ?_
  intro e f' h' q
  cases e with
  | normal =>
    obtain ⟨s, hi, ⟨hc, hn, hd⟩, k, hp⟩ := q
    have H := H2 s hi
    refine ⟨fun E R a w ok hs => ?_⟩
    have ok' := ok.cov hc
    rw [hn, hd] at ok'
    refine H.run E R a w ok' ?_
    have := hs.perm (h' := ((hh s).flatten ++ R) ++ k.flatten) ((hp.append_right R).trans (by rw [List.append_assoc, List.append_assoc]; exact (List.perm_append_comm (l₁ := k.flatten) (l₂ := R)).append_left _))
    exact this.sub
  | _ => exact q

theorem WP.weak {c : Code} {l : List (Nat × Value)} {h' : Hp} {k : List Blk} (hc : covers f.s l) (hp : h.flatten.Perm (h'.flatten ++ k)) (H : WP P r c Q { n := f.n, s := l, d := f.d } h') : WP P r c Q f h :=
  ⟨fun E R a w ok hs => H.run E R a w (ok.cov hc) (by
    have := hs.perm (hp.append_right R)
    rw [List.append_assoc] at this
    have h2 : Sat E (h'.flatten ++ R ++ k) w := this.perm (by rw [List.append_assoc]; exact (List.perm_append_comm (l₁ := k) (l₂ := R)).append_left _)
    exact h2.sub)⟩

theorem WO.nil (H : Q .normal f h) : WO P r [] Q f h := ⟨fun _ _ _ _ hf hs => ⟨f, h, H, hf, hs⟩⟩

/-- One operation: from operands as 'ρ' has them and the heap h it comes to a value and a heap as 'post' says. -/
structure S1 (P : Program) (r : Option Nat) (o : Oper) (f : Fr) (h : Hp) (post : Value → Hp → Prop) : Prop where
  run : ∀ (E : World) (R : List Blk) (a : Act) (w : World) (next : Act → World → Prop) (Q : Exit → Act → World → Prop), (∀ x v, ev f x = some v → a.eval x = v) → Sat E (h.flatten ++ R) w →
    (∀ v h' w', post v h' → Sat E (h'.flatten ++ R) w' → next (a.put o.dst v) w') → o.wpIn (fen r) 0 P a w next Q

theorem WO.step {o : Oper} {os : List GOp} {post : Value → Hp → Prop} (hd : fits o.dst f = true) (hs : S1 P r o f h post) (H : ∀ v h', post v h' → WO P r os Q (f.put o.dst v) h') : WO P r ((o, none) :: os) Q f h := by
  refine ⟨fun E R a w ok st => ?_⟩
  simp only [wpL, gateV, if_true]
  exact hs.run E R a w _ _ (fun x v hx => ok.ev hx) st fun v h' w' hp st' => (H v h' hp).run E R _ _ (ok.put hd) st'

def gate (g : Option (Option Tmp × Bool)) (f : Fr) : Option Bool :=
  match g with
  | none => some true
  | some (some t, want) => match look t f.s with
    | some v => match v with
      | .bool b => some (b == want)
      | _ => some false
    | none => none
  | some (none, _) => none

theorem gate_ok {a : Act} {g : Option (Option Tmp × Bool)} {b : Bool} (ok : f.ok a) (hg : gate g f = some b) : gateV g a.tmps = b := by
  unfold gate at hg
  unfold gateV
  split at hg
  · simpa using hg
  · rename_i t want
    cases hl : look t f.s with
    | none => rw [hl] at hg; cases hg
    | some v =>
      rw [hl] at hg
      have := ok.slot _ _ hl
      cases v <;> simp_all <;> (subst hg; rfl)
  · cases hg

theorem WO.on {o : Oper} {g : Option Tmp × Bool} {os : List GOp} (hg : gate (some g) f = some true) (H : WO P r ((o, none) :: os) Q f h) : WO P r ((o, some g) :: os) Q f h := by
  refine ⟨fun E R a w ok st => ?_⟩
  have := H.run E R a w ok st
  simp only [wpL] at this ⊢
  rw [gate_ok ok hg]
  simpa [gateV] using this

theorem WO.off {o : Oper} {g : Option Tmp × Bool} {os : List GOp} (hg : gate (some g) f = some false) (hd : fits o.dst f = true) (H : WO P r os Q (f.put o.dst undef) h) : WO P r ((o, some g) :: os) Q f h := by
  refine ⟨fun E R a w ok st => ?_⟩
  simp only [wpL]
  rw [gate_ok ok hg]
  simp only [Bool.false_eq_true, if_false]
  exact H.run E R _ _ (ok.put hd) st

end
end Go.Proofs.YtnoicafjkgbokaaDoor
