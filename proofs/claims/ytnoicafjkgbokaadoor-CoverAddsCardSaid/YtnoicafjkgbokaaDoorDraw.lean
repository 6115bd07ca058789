/-
  Regions that draw their order: what only looks at blocks that stay is taken first; what acts comes in one order alone.
-/
import Derived.Test.YtnoicafjkgbokaaDoorCore
import Derived.OrdersIn
namespace Go.Proofs.YtnoicafjkgbokaaDoor
open Go

/-- From operands as f knows them, in every world that holds the blocks S: the value v, and the world as it was. -/
def S0 (P : Program) (f : Fr) (S : List Blk) (o : Oper) (v : Value) : Prop :=
  (∀ c, o.op ≠ .defer c) ∧ (∀ c, o.op = .call c → ∃ b, c.callee = .builtin b) ∧
  ∀ (ρ : Operand → Value) (w : World), (∀ x u, ev f x = some u → ρ x = u) → (∀ p ∈ S, w.heap[p.1]? = some p.2) → (execOp ρ o).run P w = .ok (.value v) w

section
variable {P : Program} {r : Option Nat} {ops : Array Oper} {md : Region.Mode} {S : List Blk}

def Holds (S : List Blk) (w : World) : Prop := ∀ p ∈ S, w.heap[p.1]? = some p.2

def noDefer (ops : Array Oper) : Bool := ops.all fun o => match o.op with | .defer _ => false | _ => true
theorem noDefer_spec (h : noDefer ops = true) {j : Nat} {o : Oper} (ho : ops[j]? = some o) (c : Call) : o.op ≠ .defer c := by
  intro e
  have := Array.all_eq_true_iff_forall_mem.1 h o (Array.mem_of_getElem? ho)
  simp [e] at this

def YieldsH (P : Program) (ops : Array Oper) (S : List Blk) (o : Oper) (v : Value) (a : Act) : Prop :=
  (Region.wanted o (yielded ops a.tmps) = true ∧ ∀ w, Holds S w → (execOp a.eval o).run P w = .ok (.value v) w) ∨
  (Region.wanted o (yielded ops a.tmps) = false ∧ v = undef)

theorem YieldsH.wpOpIn {i : Nat} {o : Oper} {v : Value} {a : Act} {Q : Exit → Act → World → Prop} (hnd : ∀ c, o.op ≠ .defer c) (hi : ops[i]? = some o) (hy : YieldsH P ops S o v a)
    {K : Act → World → Prop} {w : World} (hS : Holds S w) (h : K (a.put o.dst v) w) : wpOpIn (fen r) 0 P ops Q i K a w := by
  unfold Go.wpOpIn
  simp only [hi]
  rcases hy with ⟨hw, hv⟩ | ⟨hw, rfl⟩
  · simp only [hw, if_true, Oper.wpIn, Oper.semAt_eq _ _ _ hnd, hv w hS, Oper.uponIn]; exact ⟨fun _ _ => trivial, h⟩
  · simp only [hw, Bool.false_eq_true, if_false]; exact ⟨fun _ _ => trivial, h⟩

theorem YieldsH.of_same {o : Oper} {v : Value} {a a' : Act} (hy : YieldsH P ops S o v a) (he : execOp a'.eval o = execOp a.eval o)
    (hw : Region.wanted o (yielded ops a'.tmps) = Region.wanted o (yielded ops a.tmps)) : YieldsH P ops S o v a' := by
  unfold YieldsH at *
  rw [he, hw]
  exact hy

def NoPanic (Q : Exit → Act → World → Prop) : Prop := ∀ c a w, ¬ Q (.panic c) a w

theorem wpOpIn_putH {j : Nat} {oi oj : Oper} {v : Value} {Q : Exit → Act → World → Prop} (hdj : ∀ c, oj.op ≠ .defer c) (hj : ops[j]? = some oj) (hap : oi.apart ops oj = true)
    (hsi : ∀ cs b, oi.op ≠ .select cs b) (hsj : ∀ cs b, oj.op ≠ .select cs b)
    (hQ : NoPanic Q) {K : Act → World → Prop} {a : Act} {w : World}
    (hy : YieldsH P ops S oi v a) (h : wpOpIn (fen r) 0 P ops Q j K (a.put oi.dst v) w) :
    wpOpIn (fen r) 0 P ops Q j (fun a' w' => YieldsH P ops S oi v a' ∧ K (a'.put oi.dst v) w') a w := by
  obtain ⟨h1, h2, h3⟩ := Oper.apart_spec hap
  have keep : ∀ (a : Act), YieldsH P ops S oi v a → ∀ u, YieldsH P ops S oi v (a.put oj.dst u) := fun a hy u =>
    hy.of_same (execOp_put oi hsi a oj.dst u h3) (wanted_put oi a oj.dst u h3)
  have keepD : ∀ d, YieldsH P ops S oi v { a with defers := d :: a.defers } := fun d => hy.of_same rfl rfl
  unfold wpOpIn at *
  simp only [hj] at *
  rw [wanted_put oj a oi.dst v h1] at h
  split
  · rename_i hw
    simp only [hw, if_true] at h
    unfold Oper.wpIn at *
    refine ⟨fun _ _ => trivial, ?_⟩
    have h := h.2
    rw [Oper.semAt_eq _ _ _ hdj, execOp_put oj hsj a oi.dst v h1] at h
    rw [Oper.semAt_eq _ _ _ hdj]
    generalize (execOp a.eval oj).run P w = r at *
    cases r with
    | ok x w' =>
      cases x <;> simp only [Oper.uponIn] at h ⊢
      case value u => exact ⟨keep a hy u, by rw [← Act.put_comm a v u h2]; exact h⟩
      case skip => exact ⟨keep a hy _, by rw [← Act.put_comm a v undef h2]; exact h⟩
      case defer d =>
        refine ⟨keep _ (keepD d) _, ?_⟩
        rw [← Act.put_comm _ v undef h2, ← Act.put_defers]
        exact h
      case enter f args =>
        refine ⟨h.1, CallsIn.mono h.2 fun e w'' he => ?_⟩
        cases e with
        | returned u => exact ⟨keep a hy u, by rw [← Act.put_comm a v u h2]; exact he⟩
        | panicked c => exact absurd he (hQ _ _ _)
        | outgrown => exact he
      case row row args => exact ⟨h.1, RowsIn.mono h.2 fun u w'' he => ⟨keep a hy u, by rw [← Act.put_comm a v u h2]; exact he⟩⟩
      case round l f tmps assign body =>
        refine ⟨h.1, RoundIn.mono h.2 fun e w'' he => ?_⟩
        cases e with
        | returned u => exact ⟨keep a hy u, by rw [← Act.put_comm a v u h2]; exact he⟩
        | panicked c => exact absurd he (hQ _ _ _)
        | outgrown => exact he
    | halt x w' =>
      cases x <;> simp only [Oper.uponIn] at h ⊢
      case panic u => exact absurd h (hQ _ _ _)
  · rename_i hw
    simp only [hw] at h
    exact ⟨fun _ _ => trivial, keep a hy _, by rw [← Act.put_comm a v undef h2]; exact h.2⟩

def wpAnyH (r : Option Nat) (P : Program) (md : Region.Mode) (ops : Array Oper) (Q : Exit → Act → World → Prop) (S : List Blk) : Nat → Array Bool → Act → World → Prop
  | 0, listed, a, w => Region.ready md ops listed = [] ∧ Q .normal a w
  | fuel + 1, listed, a, w =>
    (Region.ready md ops listed = [] → Q .normal a w) ∧
    ∀ i ∈ Region.ready md ops listed, wpOpIn (fen r) 0 P ops Q i (fun a' w' => Holds S w' ∧ wpAnyH r P md ops Q S fuel (listed.setIfInBounds i true) a' w') a w

theorem wpAny_of_H {Q : Exit → Act → World → Prop} : ∀ (fuel : Nat) (listed : Array Bool) (a : Act) (w : World), wpAnyH r P md ops Q S fuel listed a w → wpAnyIn (fen r) 0 P md ops Q fuel listed a w
  | 0, _, _, _, h => h
  | fuel + 1, _, _, _, h => ⟨h.1, fun i hi => wpOpIn_mono (fun a' w' h' => wpAny_of_H fuel _ a' w' h'.2) (h.2 i hi)⟩

theorem wpAnyH_first {i : Nat} {oi : Oper} {v : Value} {Q : Exit → Act → World → Prop} (hi : ops[i]? = some oi) (hsel : ∀ (j : Nat) (o : Oper) cs b, ops[j]? = some o → o.op ≠ .select cs b) (hdef : ∀ (j : Nat) (o : Oper) c, ops[j]? = some o → o.op ≠ .defer c)
    (hQ : NoPanic Q) :
    ∀ (fuel : Nat) (listed : Array Bool) (a : Act) (w : World),
      (∀ j oj, ops[j]? = some oj → j ≠ i → listed.getD j true = false → (∀ e ∈ oj.after, Region.binds md e = true → e.on ≠ i) → oi.apart ops oj = true) →
      i ∈ Region.ready md ops listed → YieldsH P ops S oi v a → Holds S w →
      wpAnyH r P md ops Q S fuel (listed.setIfInBounds i true) (a.put oi.dst v) w → wpAnyH r P md ops Q S (fuel + 1) listed a w := by
  intro fuel
  induction fuel with
  | zero =>
    intro listed a w _ hr hy hS H
    refine ⟨fun h => (by rw [h] at hr; cases hr), fun j hj => ?_⟩
    by_cases hji : j = i
    · subst hji; exact hy.wpOpIn (hdef _ _ · hi) hi hS ⟨hS, H⟩
    · have := ready_mono hj hji
      rw [H.1] at this
      cases this
  | succ fuel ih =>
    intro listed a w hfree hr hy hS H
    refine ⟨fun h => (by rw [h] at hr; cases hr), fun j hj => ?_⟩
    by_cases hji : j = i
    · subst hji; exact hy.wpOpIn (hdef _ _ · hi) hi hS ⟨hS, H⟩
    · have h1 := H.2 j (ready_mono hj hji)
      obtain ⟨hjun, oj, hoj, hall⟩ := mem_ready.1 hj
      have hnot : ∀ e ∈ oj.after, Region.binds md e = true → e.on ≠ i := fun e he hb heq => by
        have h1 := hall e he hb
        have h0 := (mem_ready.1 hr).1
        rw [heq] at h1
        rcases Nat.lt_or_ge i listed.size with h' | h'
        · simp [h'] at h0 h1; rw [h0] at h1; cases h1
        · simp [Array.getElem?_eq_none h'] at h1
      have h2 := wpOpIn_putH (hdef _ _ · hoj) hoj (hfree j oj hoj hji hjun hnot) (fun cs b => hsel i oi cs b hi) (fun cs b => hsel j oj cs b hoj) hQ hy h1
      have hfree' : ∀ k ok, ops[k]? = some ok → k ≠ i → (listed.setIfInBounds j true).getD k true = false →
          (∀ e ∈ ok.after, Region.binds md e = true → e.on ≠ i) → oi.apart ops ok = true := fun k ok hk hki hun hno => by
        refine hfree k ok hk hki ?_ hno
        by_cases hjk : j = k
        · subst hjk; exact hjun
        · rw [getD_set_ne true hjk] at hun; exact hun
      refine wpOpIn_mono (fun a' w' h3 => ⟨h3.2.1, ih (listed.setIfInBounds j true) a' w' hfree' (ready_mono hr (Ne.symm hji)) h3.1 h3.2.1 ?_⟩) h2
      rw [Array.setIfInBounds_comm _ _ hji]
      exact h3.2.2

/-- An operation that makes a new block, and reads none. -/
def isNew (o : Oper) : Bool :=
  match o.op with
  | .alloc _ | .box .. | .buildSlice .. | .makeMap .. | .makeSlice .. => true
  | _ => false

def newAt (ops : Array Oper) (j : Nat) : Bool := ((ops[j]?).map isNew).getD false
/-- nothing else writes what j writes -/
def lonely (ops : Array Oper) (j : Nat) : Bool := (List.range ops.size).all fun k => Nat.beq k j || !(((ops[k]?).bind (·.dst)) == ((ops[j]?).bind (·.dst)))
/-- j, which makes a new block, may come behind i -/
def waits (ops : Array Oper) (listed : Array Bool) (i j : Nat) : Bool := newAt ops j && lonely ops j && (Region.ready .any ops (listed.setIfInBounds j true) == [i])

abbrev Stp := Nat × Option Nat

/-- The one order in which the region is walked: whatever is passive first; then the one that acts; of two the one that makes a new block waits. -/
def canon (eff : Oper → Bool) (ops : Array Oper) : Nat → Array Bool → Option (List Stp)
  | 0, listed => if (Region.ready .any ops listed).isEmpty then some [] else none
  | n + 1, listed =>
    match (Region.ready .any ops listed).find? fun i => ((ops[i]?).map fun o => !eff o && Region.free .any ops listed i).getD false with
    | some i => (canon eff ops n (listed.setIfInBounds i true)).map ((i, none) :: ·)
    | none => match Region.ready .any ops listed with
      | [] => some []
      | [k] => (canon eff ops n (listed.setIfInBounds k true)).map ((k, none) :: ·)
      | [x, y] =>
        if waits ops listed x y then (canon eff ops n (listed.setIfInBounds x true)).map ((x, some y) :: ·)
        else if waits ops listed y x then (canon eff ops n (listed.setIfInBounds y true)).map ((y, some x) :: ·)
        else none
      | _ => none

/-- what waits: j, its value, its block -/
abbrev Pend := Option (Nat × (Nat → Value) × Obj)
def notP (p : Pend) (i : Nat) : Bool :=
  match p with
  | none => true
  | some (j, _) => !Nat.beq i j
/-- the operation j makes the block ob, whatever lies in the heap -/
structure PD (P : Program) (r : Option Nat) (ops : Array Oper) (f : Fr) (j : Nat) (g : Nat → Value) (ob : Obj) : Prop where
  ex : ∃ oj t, ops[j]? = some oj ∧ gate (gof ops oj) f = some true ∧ S1 P r oj f [] (fun v h' => ∃ b, v = g b ∧ h' = [[(b, ob)]]) ∧ oj.dst = some t ∧ look t f.s = none ∧ Nat.blt t f.n = true

/-- A walk through a region in its one order. -/
inductive WD (P : Program) (r : Option Nat) (S : List Blk) (ops : Array Oper) (eff : Oper → Bool) (K : Fr → Hp → Prop) : Pend → List Stp → Fr → Hp → Prop
  | nil {f h} : K f h → WD P r S ops eff K none [] f h
  | pas {pd f h i o v l} : ops[i]? = some o → eff o = false → gate (gof ops o) f = some true → S0 P f S o v → fits o.dst f = true → WD P r S ops eff K pd l (f.put o.dst v) h → WD P r S ops eff K pd ((i, none) :: l) f h
  | off {pd f h i o l} : ops[i]? = some o → notP pd i = true → gate (gof ops o) f = some false → fits o.dst f = true → WD P r S ops eff K pd l (f.put o.dst undef) h → WD P r S ops eff K pd ((i, none) :: l) f h
  | eff {pd f h i o post l} : ops[i]? = some o → notP pd i = true → eff o = true → gate (gof ops o) f = some true → S1 P r o f h post → fits o.dst f = true → (∀ v h', post v h' → WD P r S ops eff K pd l (f.put o.dst v) h') → WD P r S ops eff K pd ((i, none) :: l) f h
  | effS {pd f h hh i o post l} {g : Value → Hp → Hp} : ops[i]? = some o → notP pd i = true → eff o = true → gate (gof ops o) f = some true → hh.flatten.Perm (S ++ h.flatten) → S1 P r o f hh post → fits o.dst f = true → (∀ v h'', post v h'' → h''.flatten.Perm (S ++ (g v h'').flatten)) → (∀ v h'', post v h'' → WD P r S ops eff K pd l (f.put o.dst v) (g v h'')) → WD P r S ops eff K pd ((i, none) :: l) f h
  | know {pd f f' h l} : (∀ a, f.ok a → f'.ok a) → WD P r S ops eff K pd l f' h → WD P r S ops eff K pd l f h
  | wait {pd f h i j g ob l} : PD P r ops f j g ob → (pd = none ∨ pd = some (j, g, ob)) → WD P r S ops eff K (some (j, g, ob)) ((i, none) :: l) f h → WD P r S ops eff K pd ((i, some j) :: l) f h
  | come {f h j g ob o l} : ops[j]? = some o → eff o = true → gate (gof ops o) f = some true → S1 P r o f [] (fun v h' => ∃ b, v = g b ∧ h' = [[(b, ob)]]) → fits o.dst f = true → (∀ b, WD P r S ops eff K none l (f.put o.dst (g b)) ([(b, ob)] :: h)) → WD P r S ops eff K (some (j, g, ob)) ((j, none) :: l) f h

/-- its first step -/
inductive WDs (P : Program) (r : Option Nat) (S : List Blk) (ops : Array Oper) (eff : Oper → Bool) (K : Fr → Hp → Prop) : Pend → List Stp → Fr → Hp → Prop
  | nil {f h} : K f h → WDs P r S ops eff K none [] f h
  | pas {pd f h i o v l} : ops[i]? = some o → eff o = false → gate (gof ops o) f = some true → S0 P f S o v → fits o.dst f = true → WD P r S ops eff K pd l (f.put o.dst v) h → WDs P r S ops eff K pd ((i, none) :: l) f h
  | off {pd f h i o l} : ops[i]? = some o → notP pd i = true → gate (gof ops o) f = some false → fits o.dst f = true → WD P r S ops eff K pd l (f.put o.dst undef) h → WDs P r S ops eff K pd ((i, none) :: l) f h
  | eff {pd f h hh i o post l} {g : Value → Hp → Hp} : ops[i]? = some o → notP pd i = true → eff o = true → gate (gof ops o) f = some true → hh.flatten.Perm (S ++ h.flatten) → S1 P r o f hh post → fits o.dst f = true → (∀ v h'', post v h'' → h''.flatten.Perm (S ++ (g v h'').flatten)) → (∀ v h'', post v h'' → WD P r S ops eff K pd l (f.put o.dst v) (g v h'')) → WDs P r S ops eff K pd ((i, none) :: l) f h
  | wait {pd f h i j g ob l} : PD P r ops f j g ob → (pd = none ∨ pd = some (j, g, ob)) → WD P r S ops eff K (some (j, g, ob)) ((i, none) :: l) f h → WDs P r S ops eff K pd ((i, some j) :: l) f h
  | come {f h j g ob o l} : ops[j]? = some o → eff o = true → gate (gof ops o) f = some true → S1 P r o f [] (fun v h' => ∃ b, v = g b ∧ h' = [[(b, ob)]]) → fits o.dst f = true → (∀ b, WD P r S ops eff K none l (f.put o.dst (g b)) ([(b, ob)] :: h)) → WDs P r S ops eff K (some (j, g, ob)) ((j, none) :: l) f h

/-- what an operation does beside blocks that stay -/
theorem S1.beside {o : Oper} {f : Fr} {h : Hp} {post : Value → Hp → Prop} (hs : S1 P r o f h post) (S : List Blk) : S1 P r o f (S :: h) (fun v h'' => ∃ h', post v h' ∧ h'' = S :: h') :=
  ⟨fun E R a w next Q hx st k => hs.run E (S ++ R) a w next Q hx (st.perm (by simp only [List.flatten_cons, List.append_assoc]; exact List.perm_append_comm_assoc S h.flatten R)) fun v h' w' hp st' => k v (S :: h') w' ⟨h', hp, rfl⟩ (st'.perm (by simp only [List.flatten_cons, List.append_assoc]; exact (List.perm_append_comm_assoc S h'.flatten R).symm))⟩

theorem WD.strip {eff : Oper → Bool} {K : Fr → Hp → Prop} {pd : Pend} {l : List Stp} {f : Fr} {h : Hp} (H : WD P r S ops eff K pd l f h) : ∃ f', (∀ a, f.ok a → f'.ok a) ∧ WDs P r S ops eff K pd l f' h := by
  induction H with
  | nil k => exact ⟨_, fun _ h => h, .nil k⟩
  | pas a b c d e k _ => exact ⟨_, fun _ h => h, .pas a b c d e k⟩
  | off a n b c k _ => exact ⟨_, fun _ h => h, .off a n b c k⟩
  | @eff pd f h i o post l a n b c d e k _ =>
    refine ⟨_, fun _ h => h, WDs.eff (hh := S :: h) (g := fun _ h'' => h''.tail) a n b c (by simp) (d.beside S) e ?_ ?_⟩
    · rintro v _ ⟨h', _, rfl⟩; simp
    · rintro v _ ⟨h', hp, rfl⟩; exact k v h' hp
  | effS a n b c p d e q k _ => exact ⟨_, fun _ h => h, .eff a n b c p d e q k⟩
  | know hk _ ih => obtain ⟨f', h1, h2⟩ := ih; exact ⟨f', fun a h => h1 a (hk a h), h2⟩
  | wait a b k _ => exact ⟨_, fun _ h => h, .wait a b k⟩
  | come a e b c d k _ => exact ⟨_, fun _ h => h, .come a e b c d k⟩

open Classical in
theorem WD.effS' {eff : Oper → Bool} {K : Fr → Hp → Prop} {pd : Pend} {f : Fr} {h hh : Hp} {i : Nat} {o : Oper} {post : Value → Hp → Prop} {l : List Stp} (h1 : ops[i]? = some o) (hn : notP pd i = true) (h2 : eff o = true) (h3 : gate (gof ops o) f = some true) (h4 : hh.flatten.Perm (S ++ h.flatten)) (h5 : S1 P r o f hh post) (h6 : fits o.dst f = true)
    (H : ∀ v h'', post v h'' → ∃ h' : Hp, h''.flatten.Perm (S ++ h'.flatten) ∧ WD P r S ops eff K pd l (f.put o.dst v) h') : WD P r S ops eff K pd ((i, none) :: l) f h :=
  WD.effS (g := fun v h'' => if hp : post v h'' then Classical.choose (H v h'' hp) else []) h1 hn h2 h3 h4 h5 h6 (fun v h'' hp => by simp only [dif_pos hp]; exact (Classical.choose_spec (H v h'' hp)).1) (fun v h'' hp => by simp only [dif_pos hp]; exact (Classical.choose_spec (H v h'' hp)).2)

def onlyNormal (Q : Act → World → Prop) : Exit → Act → World → Prop
  | .normal, a, w => Q a w
  | _, _, _ => False

theorem Sat.holds {E w : World} {S R : List Blk} {h : Hp} (st : Sat E ((S ++ h.flatten) ++ R) w) : Holds S w :=
  fun p hp => st.cell p (by simp [hp])

theorem lonely_spec {j k : Nat} {oj ok : Oper} {t : Tmp} (h : lonely ops j = true) (hj : ops[j]? = some oj) (hk : ops[k]? = some ok) (ht : oj.dst = some t) (hne : k ≠ j) : ok.dst ≠ some t := by
  intro e
  have hlt : k < ops.size := (Array.getElem?_eq_some_iff.1 hk).1
  have h1 := List.all_eq_true.1 h k (List.mem_range.2 hlt)
  rw [hj, hk] at h1
  simp only [Option.bind_some, ht, e, BEq.rfl, Bool.not_true, Bool.or_false] at h1
  exact hne (Nat.eq_of_beq_eq_true h1)

section sound
variable {eff : Oper → Bool} {K : Fr → Hp → Prop} {E : World} {R : List Blk}

abbrev Goal (P : Program) (r : Option Nat) (ops : Array Oper) (S : List Blk) (K : Fr → Hp → Prop) (E : World) (R : List Blk) : Nat → Array Bool → Act → World → Prop :=
  wpAnyH r P .any ops (onlyNormal fun a w => ∃ f h, K f h ∧ f.ok a ∧ Sat E ((S ++ h.flatten) ++ R) w) S

/-- nothing done ahead -/
def ModeN (P : Program) (r : Option Nat) (ops : Array Oper) (S : List Blk) (eff : Oper → Bool) (K : Fr → Hp → Prop) (E : World) (R : List Blk) (fuel : Nat) : Prop :=
  ∀ (order : List Stp) (listed : Array Bool) (pd : Pend) (f : Fr) (h : Hp), canon eff ops fuel listed = some order → WD P r S ops eff K pd order f h →
      ∀ a w, f.ok a → Sat E ((S ++ h.flatten) ++ R) w → Goal P r ops S K E R fuel listed a w
/-- what waits has been done ahead -/
def ModeS (P : Program) (r : Option Nat) (ops : Array Oper) (S : List Blk) (eff : Oper → Bool) (K : Fr → Hp → Prop) (E : World) (R : List Blk) (fuel : Nat) : Prop :=
  ∀ (order : List Stp) (listed : Array Bool) (j : Nat) (g : Nat → Value) (ob : Obj) (oj : Oper) (t : Tmp) (f : Fr) (h : Hp), canon eff ops (fuel + 1) listed = some order → WD P r S ops eff K (some (j, g, ob)) order f h →
      ops[j]? = some oj → oj.dst = some t → eff oj = true → lonely ops j = true → j ∈ Region.ready .any ops listed →
      ∀ a w b, f.ok a → a.tmps[t]? = some (g b) → Sat E ((S ++ ([(b, ob)] :: h : Hp).flatten) ++ R) w → Goal P r ops S K E R fuel (listed.setIfInBounds j true) a w

theorem canon_pos {fuel : Nat} {listed : Array Bool} {l : List Stp} {j : Nat} (hc : canon eff ops fuel listed = some l) (hj : j ∈ Region.ready .any ops listed) : ∃ k, fuel = k + 1 := by
  cases fuel with
  | succ k => exact ⟨k, rfl⟩
  | zero =>
    simp only [canon] at hc
    split at hc
    · rename_i he
      rw [List.isEmpty_iff] at he
      rw [he] at hj; cases hj
    · cases hc

theorem run_eff {i : Nat} {o : Oper} {f : Fr} {h hh : Hp} {X : List Blk} {post : Value → Hp → Prop} {g : Value → Hp → Hp} (ho : ops[i]? = some o) (hg : gate (gof ops o) f = some true) (hpm : hh.flatten.Perm (S ++ h.flatten)) (h1 : S1 P r o f hh post)
    (hpq : ∀ v h'', post v h'' → h''.flatten.Perm (S ++ (g v h'').flatten)) {Q : Exit → Act → World → Prop} {next : Act → World → Prop} {a : Act} {w : World} (ok : f.ok a) (st : Sat E ((S ++ h.flatten) ++ X) w)
    (H : ∀ v h'' w', post v h'' → Sat E ((S ++ (g v h'').flatten) ++ X) w' → next (a.put o.dst v) w') : wpOpIn (fen r) 0 P ops Q i next a w := by
  unfold wpOpIn
  simp only [ho]
  rw [wanted_gate, gate_ok ok hg]
  simp only [if_true]
  have st1 : Sat E (hh.flatten ++ X) w := st.perm (hpm.symm.append_right X)
  refine h1.run E X a w _ _ (fun x u hx => ok.ev hx) st1 fun v h'' w' hp st' => ?_
  exact H v h'' w' hp (st'.perm ((hpq v h'' hp).append_right X))

theorem ok_slot {f : Fr} {a : Act} {t : Tmp} {v : Value} (ok : f.ok a) (hv : a.tmps[t]? = some v) : (f.put (some t) v).ok a := by
  refine ⟨ok.size, fun k u hk => ?_, ok.defs⟩
  simp only [Fr.put, look] at hk
  cases e : Nat.beq t k with
  | true =>
    rw [e] at hk
    obtain rfl := Nat.eq_of_beq_eq_true e
    simp only [cond_true, Option.some.injEq] at hk
    subst hk
    exact hv
  | false => rw [e] at hk; exact ok.slot _ _ hk

theorem ok_unslot {f : Fr} {a : Act} {t : Tmp} {v : Value} (ok : f.ok a) (hl : look t f.s = none) : f.ok (a.put (some t) v) := by
  refine ⟨by simp [Act.put, ok.size], fun k u hk => ?_, by simp [Act.put, ok.defs]⟩
  have hne : t ≠ k := fun e => by subst e; rw [hl] at hk; cases hk
  simp only [Act.put]
  rw [Array.getElem?_setIfInBounds_ne hne]
  exact ok.slot _ _ hk

theorem slot_put {a : Act} {d : Option Tmp} {t : Tmp} {v u : Value} (hd : d ≠ some t) (hv : a.tmps[t]? = some v) : (a.put d u).tmps[t]? = some v := by
  cases d with
  | none => exact hv
  | some k =>
    have hne : k ≠ t := fun e => hd (by rw [e])
    simp only [Act.put]
    rw [Array.getElem?_setIfInBounds_ne hne]
    exact hv

theorem waits_spec {listed : Array Bool} {i j : Nat} (h : waits ops listed i j = true) : newAt ops j = true ∧ lonely ops j = true ∧ Region.ready .any ops (listed.setIfInBounds j true) = [i] := by
  simp only [waits, Bool.and_eq_true, beq_iff_eq] at h
  exact ⟨h.1.1, h.1.2, h.2⟩

theorem modeS_step (hs : Region.noSelect ops = true) (hd : noDefer ops = true) {fuel : Nat} (ihN : ModeN P r ops S eff K E R fuel) (ihS : ∀ k, fuel = k + 1 → ModeS P r ops S eff K E R k) : ModeS P r ops S eff K E R fuel := by
  intro order listed j g ob oj t f₀ h hc hw₀ hoj htj hej hlo hjr a w b ok₀ hsl st
  have hQ : NoPanic (onlyNormal fun a w => ∃ f h, K f h ∧ f.ok a ∧ Sat E ((S ++ h.flatten) ++ R) w) := fun _ _ _ h => h
  obtain ⟨f, hk, hw⟩ := hw₀.strip
  have ok := hk a ok₀
  clear hk hw₀ ok₀
  have stX : ∀ {h : Hp} {w : World}, Sat E ((S ++ ([(b, ob)] :: h : Hp).flatten) ++ R) w → Sat E ((S ++ h.flatten) ++ ((b, ob) :: R)) w := fun st => st.perm (by
    simp only [List.flatten_cons, List.cons_append, List.nil_append, List.append_assoc]
    exact List.Perm.append_left _ (List.perm_middle.symm))
  have stY : ∀ {h : Hp} {w : World}, Sat E ((S ++ h.flatten) ++ ((b, ob) :: R)) w → Sat E ((S ++ ([(b, ob)] :: h : Hp).flatten) ++ R) w := fun st => st.perm (by
    simp only [List.flatten_cons, List.cons_append, List.nil_append, List.append_assoc]
    exact List.Perm.append_left _ List.perm_middle)
  simp only [canon] at hc
  split at hc
  · rename_i i hf
    cases ht : canon eff ops fuel (listed.setIfInBounds i true) with
    | none => rw [ht] at hc; cases hc
    | some l =>
      rw [ht] at hc
      simp only [Option.map_some, Option.some.injEq] at hc
      subst hc
      have hmem := List.mem_of_find?_eq_some hf
      have hcond := List.find?_some hf
      have hij : i ≠ j := fun e => by
        subst e
        simp only [hoj, Option.map_some, Option.getD_some, hej, Bool.not_true, Bool.false_and] at hcond
        cases hcond
      have hjr' : j ∈ Region.ready .any ops (listed.setIfInBounds i true) := ready_mono hjr (Ne.symm hij)
      obtain ⟨k, rfl⟩ := canon_pos ht hjr'
      have take : ∀ (o : Oper) (v : Value), ops[i]? = some o → YieldsH P ops S o v a → WD P r S ops eff K (some (j, g, ob)) l (f.put o.dst v) h → fits o.dst f = true →
          Goal P r ops S K E R (k + 1) (listed.setIfInBounds j true) a w := fun o v ho hy hw' hft => by
        have hfree : Region.free .any ops listed i = true := by
          simp only [ho, Option.map_some, Option.getD_some, Bool.and_eq_true] at hcond
          exact hcond.2
        have hfr : ∀ m om, ops[m]? = some om → m ≠ i → (listed.setIfInBounds j true).getD m true = false → (∀ e ∈ om.after, Region.binds .any e = true → e.on ≠ i) → o.apart ops om = true := fun m om hm hmi hun hno => by
          refine Region.free_spec ho hfree m om hm hmi ?_ hno
          by_cases hjm : j = m
          · subst hjm; exact (mem_ready.1 hjr).1
          · rw [getD_set_ne true hjm] at hun; exact hun
        refine wpAnyH_first ho (Region.noSelect_spec hs) (fun j o c hj => noDefer_spec hd hj c) hQ k (listed.setIfInBounds j true) a w hfr (ready_mono hmem hij) hy (st.holds) ?_
        rw [Array.setIfInBounds_comm _ _ (Ne.symm hij)]
        exact ihS k rfl l (listed.setIfInBounds i true) j g ob oj t _ h ht hw' hoj htj hej hlo hjr' _ w b (ok.put hft) (slot_put (lonely_spec hlo hoj ho htj hij) hsl) st
      cases hw with
      | @pas _ _ _ _ o v _ ho _ hg h0 hft hw' =>
        refine take o v ho (.inl ⟨by rw [wanted_gate]; exact gate_ok ok hg, fun w hS => h0.2.2 _ w (fun x u hx => ok.ev hx) hS⟩) hw' hft
      | @off _ _ _ _ o _ ho _ hg hft hw' =>
        exact take o undef ho (.inr ⟨by rw [wanted_gate]; exact gate_ok ok hg, rfl⟩) hw' hft
      | @eff _ _ _ _ _ o post _ _ ho _ he hg _ _ hft _ hw' =>
        simp only [ho, Option.map_some, Option.getD_some, he, Bool.not_true, Bool.false_and] at hcond
        cases hcond
      | come => exact absurd rfl hij
  · split at hc
    · rename_i hr; rw [hr] at hjr; cases hjr
    · rename_i k hr
      rw [hr] at hjr
      simp only [List.mem_singleton] at hjr
      subst hjr
      cases ht : canon eff ops fuel (listed.setIfInBounds j true) with
      | none => rw [ht] at hc; cases hc
      | some l =>
        rw [ht] at hc
        simp only [Option.map_some, Option.some.injEq] at hc
        subst hc
        cases hw with
        | @pas _ _ _ _ o v _ ho he _ _ _ _ => rw [hoj] at ho; cases ho; rw [he] at hej; cases hej
        | @off _ _ _ _ o _ ho hn _ _ _ => simp [notP] at hn
        | @eff _ _ _ _ _ o post _ _ ho hn _ _ _ _ _ _ _ => simp [notP] at hn
        | @come _ _ _ _ _ o _ ho _ _ _ _ hw' =>
          rw [hoj] at ho; cases ho
          have ok2 := ok_slot ok hsl
          rw [← htj] at ok2
          exact ihN l (listed.setIfInBounds j true) none _ _ ht (hw' b) a w ok2 st
    · rename_i x y hr
      have key : ∀ i j', waits ops listed i j' = true → (∃ l, canon eff ops fuel (listed.setIfInBounds i true) = some l ∧ (i, some j') :: l = order) → (i = x ∧ j' = y ∨ i = y ∧ j' = x) →
          Goal P r ops S K E R fuel (listed.setIfInBounds j true) a w := by
        rintro i j' hwt ⟨l, ht, rfl⟩ hxy
        obtain ⟨hnew, hlo', hrj⟩ := waits_spec hwt
        cases hw with
        | @wait _ _ _ _ _ g' ob' _ hpd hpp hw1 =>
          rcases hpp with hpp | hpp
          · cases hpp
          simp only [Option.some.injEq, Prod.mk.injEq] at hpp
          obtain ⟨rfl, rfl, rfl⟩ := hpp
          have hij : i ≠ j := fun e => by
            subst e
            have : i ∈ Region.ready .any ops (listed.setIfInBounds i true) := by rw [hrj]; simp
            have h1 := (mem_ready.1 this).1
            have h2 := (mem_ready.1 hjr).1
            rcases Nat.lt_or_ge i listed.size with h' | h'
            · simp [h'] at h1
            · simp [Array.getElem?_eq_none h'] at h2
          obtain ⟨f', hk', hws⟩ := hw1.strip
          have ok' := hk' a ok
          have hjr' : j ∈ Region.ready .any ops (listed.setIfInBounds i true) := ready_mono hjr (Ne.symm hij)
          obtain ⟨k, rfl⟩ := canon_pos ht hjr'
          refine ⟨fun h0 => (by rw [hrj] at h0; cases h0), fun m hm => ?_⟩
          rw [hrj] at hm
          simp only [List.mem_singleton] at hm
          subst hm
          have fin : ∀ (o : Oper) (v : Value) (h2 : Hp) (a' : Act) (w' : World), ops[m]? = some o → WD P r S ops eff K (some (j, g, ob)) l (f'.put o.dst v) h2 → fits o.dst f' = true → a' = a.put o.dst v → Sat E ((S ++ ([(b, ob)] :: h2 : Hp).flatten) ++ R) w' →
              Holds S w' ∧ Goal P r ops S K E R k ((listed.setIfInBounds j true).setIfInBounds m true) a' w' := fun o v h2 a' w' ho hw' hft ea st' => by
            subst ea
            refine ⟨st'.holds, ?_⟩
            rw [Array.setIfInBounds_comm _ _ (Ne.symm hij)]
            exact ihS k rfl l (listed.setIfInBounds m true) j g ob oj t _ h2 ht hw' hoj htj hej hlo hjr' _ w' b (ok'.put hft) (slot_put (lonely_spec hlo hoj ho htj hij) hsl) st'
          cases hws with
          | @pas _ _ _ _ o v _ ho _ hg h0 hft hw' =>
            exact YieldsH.wpOpIn (S := S) (v := v) (fun c => noDefer_spec hd ho c) ho (.inl ⟨by rw [wanted_gate]; exact gate_ok ok' hg, fun w hS => h0.2.2 _ w (fun x u hx => ok'.ev hx) hS⟩) st.holds (fin o v h _ w ho hw' hft rfl st)
          | @off _ _ _ _ o _ ho _ hg hft hw' =>
            exact YieldsH.wpOpIn (S := S) (v := undef) (fun c => noDefer_spec hd ho c) ho (.inr ⟨by rw [wanted_gate]; exact gate_ok ok' hg, rfl⟩) st.holds (fin o undef h _ w ho hw' hft rfl st)
          | @eff _ _ _ hh _ o post _ g2 ho _ he hg hpm h1 hft hpq hw' =>
            exact run_eff ho hg hpm h1 hpq ok' (stX st) fun v h'' w' hp st' => fin o v _ _ w' ho (hw' v h'' hp) hft rfl (stY st')
          | come => exact absurd rfl hij
        | _ => skip
      split at hc
      · rename_i hwt
        cases ht : canon eff ops fuel (listed.setIfInBounds x true) with
        | none => rw [ht] at hc; cases hc
        | some l => rw [ht] at hc; simp only [Option.map_some, Option.some.injEq] at hc; exact key x y hwt ⟨l, ht, hc⟩ (.inl ⟨rfl, rfl⟩)
      · split at hc
        · rename_i hwt
          cases ht : canon eff ops fuel (listed.setIfInBounds y true) with
          | none => rw [ht] at hc; cases hc
          | some l => rw [ht] at hc; simp only [Option.map_some, Option.some.injEq] at hc; exact key y x hwt ⟨l, ht, hc⟩ (.inr ⟨rfl, rfl⟩)
        · cases hc
    · cases hc

theorem modeN_step (hs : Region.noSelect ops = true) (hd : noDefer ops = true) (hnew : ∀ o : Oper, isNew o = true → eff o = true) {fuel : Nat} (ihN : ModeN P r ops S eff K E R fuel) (ihS : ModeS P r ops S eff K E R fuel) : ModeN P r ops S eff K E R (fuel + 1) := by
  have hQ : NoPanic (onlyNormal fun a w => ∃ f h, K f h ∧ f.ok a ∧ Sat E ((S ++ h.flatten) ++ R) w) := fun _ _ _ h => h
  intro order listed pd f₀ h hc₀ hw₀ a w ok₀ st
  have hc := hc₀
  obtain ⟨f, hk, hw⟩ := hw₀.strip
  have ok := hk a ok₀
  clear hk hw₀ ok₀
  simp only [canon] at hc
  split at hc
  · rename_i i hf
    cases ht : canon eff ops fuel (listed.setIfInBounds i true) with
    | none => rw [ht] at hc; cases hc
    | some l =>
      rw [ht] at hc
      simp only [Option.map_some, Option.some.injEq] at hc
      subst hc
      have hmem := List.mem_of_find?_eq_some hf
      have hcond := List.find?_some hf
      have take : ∀ (o : Oper) (v : Value), ops[i]? = some o → YieldsH P ops S o v a → WD P r S ops eff K pd l (f.put o.dst v) h → fits o.dst f = true →
          Goal P r ops S K E R (fuel + 1) listed a w := fun o v ho hy hw' hft => by
        have hfree : Region.free .any ops listed i = true := by
          simp only [ho, Option.map_some, Option.getD_some, Bool.and_eq_true] at hcond
          exact hcond.2
        exact wpAnyH_first ho (Region.noSelect_spec hs) (fun j o c hj => noDefer_spec hd hj c) hQ fuel listed a w (Region.free_spec ho hfree) hmem hy st.holds (ihN l _ _ _ _ ht hw' _ w (ok.put hft) st)
      cases hw with
      | @pas _ _ _ _ o v _ ho _ hg h0 hft hw' =>
        refine take o v ho (.inl ⟨by rw [wanted_gate]; exact gate_ok ok hg, fun w hS => h0.2.2 _ w (fun x u hx => ok.ev hx) hS⟩) hw' hft
      | @off _ _ _ _ o _ ho _ hg hft hw' =>
        exact take o undef ho (.inr ⟨by rw [wanted_gate]; exact gate_ok ok hg, rfl⟩) hw' hft
      | @eff _ _ _ _ _ o post _ _ ho _ he hg _ _ hft _ hw' =>
        simp only [ho, Option.map_some, Option.getD_some, he, Bool.not_true, Bool.false_and] at hcond
        cases hcond
      | @come _ _ _ g ob o _ ho he hg h1 hft hw' =>
        simp only [ho, Option.map_some, Option.getD_some, he, Bool.not_true, Bool.false_and] at hcond
        cases hcond
  · split at hc
    · rename_i hr
      simp only [Option.some.injEq] at hc
      subst hc
      cases hw with
      | nil k => exact ⟨fun _ => ⟨f, h, k, ok, st⟩, by rw [hr]; simp⟩
    · rename_i k hr
      cases ht : canon eff ops fuel (listed.setIfInBounds k true) with
      | none => rw [ht] at hc; cases hc
      | some l =>
        rw [ht] at hc
        simp only [Option.map_some, Option.some.injEq] at hc
        subst hc
        refine ⟨fun h0 => (by rw [hr] at h0; cases h0), fun i hi => ?_⟩
        rw [hr] at hi
        simp only [List.mem_singleton] at hi
        subst hi
        cases hw with
        | @pas _ _ _ _ o v _ ho _ hg h0 hft hw' =>
          refine YieldsH.wpOpIn (S := S) (v := v) (fun c => noDefer_spec hd ho c) ho (.inl ⟨by rw [wanted_gate]; exact gate_ok ok hg, fun w hS => h0.2.2 _ w (fun x u hx => ok.ev hx) hS⟩) st.holds ⟨st.holds, ihN l _ _ _ _ ht hw' _ w (ok.put hft) st⟩
        | @off _ _ _ _ o _ ho _ hg hft hw' =>
          exact YieldsH.wpOpIn (S := S) (v := undef) (fun c => noDefer_spec hd ho c) ho (.inr ⟨by rw [wanted_gate]; exact gate_ok ok hg, rfl⟩) st.holds ⟨st.holds, ihN l _ _ _ _ ht hw' _ w (ok.put hft) st⟩
        | @eff _ _ _ hh _ o post _ g ho _ he hg hpm h1 hft hpq hw' =>
          exact run_eff ho hg hpm h1 hpq ok st fun v h'' w' hp st2 => ⟨st2.holds, ihN l _ _ _ _ ht (hw' v h'' hp) _ w' (ok.put hft) st2⟩
        | @come _ _ _ g ob o _ ho he hg h1 hft hw' =>
          refine run_eff (hh := S :: h) (g := fun _ h'' => h''.tail) (post := fun v h'' => ∃ b, v = g b ∧ h'' = S :: [(b, ob)] :: h) ho hg (by simp) ?_ ?_ ok st ?_
          · refine ⟨fun E R a w next Q hx st k => h1.run E ((S :: h : Hp).flatten ++ R) a w next Q hx (by simpa using st) ?_⟩
            rintro v _ w' ⟨b, rfl, rfl⟩ st'
            refine k _ _ w' ⟨b, rfl, rfl⟩ (st'.perm ?_)
            simp only [List.flatten_cons, List.flatten_nil, List.append_nil, List.cons_append, List.nil_append, List.append_assoc]
            exact List.perm_middle.symm
          · rintro v _ ⟨b, rfl, rfl⟩; simp
          · rintro v _ w' ⟨b, rfl, rfl⟩ st2
            exact ⟨st2.holds, ihN l _ _ _ _ ht (hw' b) _ w' (ok.put hft) st2⟩
    · rename_i x y hr
      have key : ∀ i j, waits ops listed i j = true → (∃ l, canon eff ops fuel (listed.setIfInBounds i true) = some l ∧ (i, some j) :: l = order) → (∀ m, m ∈ Region.ready .any ops listed → m = i ∨ m = j) → j ∈ Region.ready .any ops listed →
          Goal P r ops S K E R (fuel + 1) listed a w := by
        rintro i j hwt ⟨l, ht, rfl⟩ hxy hjr
        obtain ⟨hnw, hlo, hrj⟩ := waits_spec hwt
        cases hw with
        | @wait _ _ _ _ _ g ob _ hpd hpp hw1 =>
          obtain ⟨oj, t, hoj, hgj, h1j, htj, hlj, hfj⟩ := hpd.ex
          have hej : eff oj = true := hnew oj (by simpa [newAt, hoj] using hnw)
          refine ⟨fun h0 => (by rw [h0] at hjr; cases hjr), fun m hm => ?_⟩
          rcases hxy m hm with rfl | rfl
          · obtain ⟨f', hk', hws⟩ := hw1.strip
            have ok' := hk' a ok
            cases hws with
            | @pas _ _ _ _ o v _ ho _ hg h0 hft hw' =>
              exact YieldsH.wpOpIn (S := S) (v := v) (fun c => noDefer_spec hd ho c) ho (.inl ⟨by rw [wanted_gate]; exact gate_ok ok' hg, fun w hS => h0.2.2 _ w (fun x u hx => ok'.ev hx) hS⟩) st.holds ⟨st.holds, ihN l _ _ _ _ ht hw' _ w (ok'.put hft) st⟩
            | @off _ _ _ _ o _ ho _ hg hft hw' =>
              exact YieldsH.wpOpIn (S := S) (v := undef) (fun c => noDefer_spec hd ho c) ho (.inr ⟨by rw [wanted_gate]; exact gate_ok ok' hg, rfl⟩) st.holds ⟨st.holds, ihN l _ _ _ _ ht hw' _ w (ok'.put hft) st⟩
            | @eff _ _ _ hh _ o post _ g2 ho _ he hg hpm h1 hft hpq hw' =>
              exact run_eff ho hg hpm h1 hpq ok' st fun v h'' w' hp st2 => ⟨st2.holds, ihN l _ _ _ _ ht (hw' v h'' hp) _ w' (ok'.put hft) st2⟩
            | come =>
              exfalso
              have : j ∈ Region.ready .any ops (listed.setIfInBounds j true) := by rw [hrj]; simp
              have h1 := (mem_ready.1 this).1
              have h2 := (mem_ready.1 hjr).1
              rcases Nat.lt_or_ge j listed.size with h' | h'
              · simp [h'] at h1
              · simp [Array.getElem?_eq_none h'] at h2
          · unfold wpOpIn
            simp only [hoj]
            rw [wanted_gate, gate_ok ok hgj]
            simp only [if_true]
            refine h1j.run E ((S ++ h.flatten) ++ R) a w _ _ (fun x u hx => ok.ev hx) (by simpa using st) ?_
            rintro v _ w' ⟨b, rfl, rfl⟩ st'
            have st2 : Sat E ((S ++ ([(b, ob)] :: h : Hp).flatten) ++ R) w' := st'.perm (by
              simp only [List.flatten_cons, List.flatten_nil, List.append_nil, List.cons_append, List.nil_append, List.append_assoc]
              exact List.perm_middle.symm)
            refine ⟨st2.holds, ?_⟩
            have hlt : t < a.tmps.size := by rw [ok.size]; exact Nat.le_of_ble_eq_true hfj
            rw [htj]
            exact ihS ((i, some m) :: l) listed m g ob oj t f h hc₀ (WD.wait hpd (.inr rfl) hw1) hoj htj hej hlo hjr _ w' b (ok_unslot ok hlj) (by simp [Act.put, hlt]) st2
        | _ => skip
      split at hc
      · rename_i hwt
        cases ht : canon eff ops fuel (listed.setIfInBounds x true) with
        | none => rw [ht] at hc; cases hc
        | some l => rw [ht] at hc; simp only [Option.map_some, Option.some.injEq] at hc; exact key x y hwt ⟨l, ht, hc⟩ (by rw [hr]; simp) (by rw [hr]; simp)
      · split at hc
        · rename_i hwt
          cases ht : canon eff ops fuel (listed.setIfInBounds y true) with
          | none => rw [ht] at hc; cases hc
          | some l => rw [ht] at hc; simp only [Option.map_some, Option.some.injEq] at hc; exact key y x hwt ⟨l, ht, hc⟩ (by rw [hr]; simp [or_comm]) (by rw [hr]; simp)
        · cases hc
    · cases hc

theorem wd_sound (hs : Region.noSelect ops = true) (hd : noDefer ops = true) (hnew : ∀ o : Oper, isNew o = true → eff o = true) : ∀ (fuel : Nat), ModeN P r ops S eff K E R fuel ∧ ModeS P r ops S eff K E R fuel := by
  have hN0 : ModeN P r ops S eff K E R 0 := by
    intro order listed pd f₀ h hc hw₀ a w ok₀ st
    obtain ⟨f, hk, hw⟩ := hw₀.strip
    have ok := hk a ok₀
    simp only [canon] at hc
    split at hc
    · rename_i he
      simp only [Option.some.injEq] at hc
      subst hc
      cases hw with
      | nil k => exact ⟨by simpa using he, f, h, k, ok, st⟩
    · cases hc
  intro fuel
  induction fuel with
  | zero => exact ⟨hN0, modeS_step hs hd hN0 (fun k hk => by cases hk)⟩
  | succ fuel ih =>
    have h1 := modeN_step hs hd hnew ih.1 ih.2
    exact ⟨h1, modeS_step hs hd h1 (fun k hk => by cases hk; exact ih.2)⟩
end sound

/-- A region that draws its order. S: blocks that stay as they are; h: what the acting operations may use. -/
theorem WP.draw {id : Nat} {Q : Exit → Fr → Hp → Prop} {f : Fr} {S h : Hp} (order : List Stp) (eff : Oper → Bool) (hnew : ∀ o : Oper, isNew o = true → eff o = true) (hm : P.follows .mixedOrders = true) (hs : Region.noSelect ops = true) (hd : noDefer ops = true)
    (hc : canon eff ops ops.size (Array.replicate ops.size false) = some order) (H : WD P r S.flatten ops eff (fun f h => Q .normal f (S ++ h)) none order f h) : WP P r (.region id ops true) Q f (S ++ h) := by
  refine ⟨fun E R a w ok st => ?_⟩
  have st' : Sat E ((S.flatten ++ h.flatten) ++ R) { w with drawn := w.drawn + 1 } := by
    rw [List.flatten_append] at st
    exact ⟨st.nodup, st.cell, st.tape, st.os, st.out, Nat.le_succ_of_le st.drawn, st.size⟩
  refine wpIn_mono (wpIn_region_any hm (wpAny_of_H _ _ _ _ ((wd_sound hs hd hnew _).1 _ _ _ _ _ hc H a _ ok st'))) fun e a w hq => ?_
  cases e with
  | normal => obtain ⟨f, h, k, ok, st⟩ := hq; exact ⟨f, S ++ h, k, ok, by rw [List.flatten_append]; exact st⟩
  | _ => exact hq.elim

end
end Go.Proofs.YtnoicafjkgbokaaDoor
