/-
  Regions that draw their order: what only looks at blocks that stay is taken first; what acts comes in one order alone.
-/
import Derived.Test.YtjglpmaedphbnaaCore
import Derived.OrdersIn
namespace Go.Proofs.Ytjglpmaedphbnaa
open Go

/-- From operands as f knows them, in every world that holds the blocks S: the value v, and the world as it was. -/
def S0 (P : Program) (f : Fr) (S : List Blk) (o : Oper) (v : Value) : Prop :=
  (∀ c, o.op ≠ .defer c) ∧ (∀ c, o.op = .call c → ∃ b, c.callee = .builtin b) ∧
  ∀ (ρ : Operand → Value) (w : World), (∀ x u, ev f x = some u → ρ x = u) → (∀ p ∈ S, w.heap[p.1]? = some p.2) → (execOp ρ o).run P w = .ok (.value v) w

section
variable {P : Program} {r : Option Nat} {ops : Array Oper} {md : Region.Mode} {S : List Blk}

def Holds (S : List Blk) (w : World) : Prop := ∀ p ∈ S, w.heap[p.1]? = some p.2

def noDefer (ops : Array Oper) : Bool := ops.all fun o => match o.op with | .defer _ => false | _ => true
theorem noDefer_spec (h : noDefer ops = true) {j : Nat} {o : Oper} (ho : ops[j]? = some o) (c : Call) : o.op ≠ .defer c := by
  intro e
  have := Array.all_eq_true_iff_forall_mem.1 h o (Array.mem_of_getElem? ho)
  simp [e] at this

def YieldsH (P : Program) (ops : Array Oper) (S : List Blk) (o : Oper) (v : Value) (a : Act) : Prop :=
  (Region.wanted o (yielded ops a.tmps) = true ∧ ∀ w, Holds S w → (execOp a.eval o).run P w = .ok (.value v) w) ∨
  (Region.wanted o (yielded ops a.tmps) = false ∧ v = undef)

theorem YieldsH.wpOpIn {i : Nat} {o : Oper} {v : Value} {a : Act} {Q : Exit → Act → World → Prop} (hnd : ∀ c, o.op ≠ .defer c) (hi : ops[i]? = some o) (hy : YieldsH P ops S o v a)
    {K : Act → World → Prop} {w : World} (hS : Holds S w) (h : K (a.put o.dst v) w) : wpOpIn (fen r) 0 P ops Q i K a w := by
  unfold Go.wpOpIn
  simp only [hi]
  rcases hy with ⟨hw, hv⟩ | ⟨hw, rfl⟩
  · simp only [hw, if_true, Oper.wpIn, Oper.semAt_eq _ _ _ hnd, hv w hS, Oper.uponIn]; exact ⟨fun _ _ => trivial, h⟩
  · simp only [hw, Bool.false_eq_true, if_false]; exact ⟨fun _ _ => trivial, h⟩

theorem YieldsH.of_same {o : Oper} {v : Value} {a a' : Act} (hy : YieldsH P ops S o v a) (he : execOp a'.eval o = execOp a.eval o)
    (hw : Region.wanted o (yielded ops a'.tmps) = Region.wanted o (yielded ops a.tmps)) : YieldsH P ops S o v a' := by
  unfold YieldsH at *
  rw [he, hw]
  exact hy

def NoPanic (Q : Exit → Act → World → Prop) : Prop := ∀ c a w, ¬ Q (.panic c) a w

theorem wpOpIn_putH {j : Nat} {oi oj : Oper} {v : Value} {Q : Exit → Act → World → Prop} (hdj : ∀ c, oj.op ≠ .defer c) (hj : ops[j]? = some oj) (hap : oi.apart ops oj = true)
    (hsi : ∀ cs b, oi.op ≠ .select cs b) (hsj : ∀ cs b, oj.op ≠ .select cs b)
    (hQ : NoPanic Q) {K : Act → World → Prop} {a : Act} {w : World}
    (hy : YieldsH P ops S oi v a) (h : wpOpIn (fen r) 0 P ops Q j K (a.put oi.dst v) w) :
    wpOpIn (fen r) 0 P ops Q j (fun a' w' => YieldsH P ops S oi v a' ∧ K (a'.put oi.dst v) w') a w := by
  obtain ⟨h1, h2, h3⟩ := Oper.apart_spec hap
  have keep : ∀ (a : Act), YieldsH P ops S oi v a → ∀ u, YieldsH P ops S oi v (a.put oj.dst u) := fun a hy u =>
    hy.of_same (execOp_put oi hsi a oj.dst u h3) (wanted_put oi a oj.dst u h3)
  have keepD : ∀ d, YieldsH P ops S oi v { a with defers := d :: a.defers } := fun d => hy.of_same rfl rfl
  unfold wpOpIn at *
  simp only [hj] at *
  rw [wanted_put oj a oi.dst v h1] at h
  split
  · rename_i hw
    simp only [hw, if_true] at h
    unfold Oper.wpIn at *
    refine ⟨fun _ _ => trivial, ?_⟩
    have h := h.2
    rw [Oper.semAt_eq _ _ _ hdj, execOp_put oj hsj a oi.dst v h1] at h
    rw [Oper.semAt_eq _ _ _ hdj]
    generalize (execOp a.eval oj).run P w = r at *
    cases r with
    | ok x w' =>
      cases x <;> simp only [Oper.uponIn] at h ⊢
      case value u => exact ⟨keep a hy u, by rw [← Act.put_comm a v u h2]; exact h⟩
      case skip => exact ⟨keep a hy _, by rw [← Act.put_comm a v undef h2]; exact h⟩
      case defer d =>
        refine ⟨keep _ (keepD d) _, ?_⟩
        rw [← Act.put_comm _ v undef h2, ← Act.put_defers]
        exact h
      case enter f args =>
        refine ⟨h.1, CallsIn.mono h.2 fun e w'' he => ?_⟩
        cases e with
        | returned u => exact ⟨keep a hy u, by rw [← Act.put_comm a v u h2]; exact he⟩
        | panicked c => exact absurd he (hQ _ _ _)
        | outgrown => exact he
      case row row args => exact ⟨h.1, RowsIn.mono h.2 fun u w'' he => ⟨keep a hy u, by rw [← Act.put_comm a v u h2]; exact he⟩⟩
      case round l f tmps assign body =>
        refine ⟨h.1, RoundIn.mono h.2 fun e w'' he => ?_⟩
        cases e with
        | returned u => exact ⟨keep a hy u, by rw [← Act.put_comm a v u h2]; exact he⟩
        | panicked c => exact absurd he (hQ _ _ _)
        | outgrown => exact he
    | halt x w' =>
      cases x <;> simp only [Oper.uponIn] at h ⊢
      case panic u => exact absurd h (hQ _ _ _)
  · rename_i hw
    simp only [hw] at h
    exact ⟨fun _ _ => trivial, keep a hy _, by rw [← Act.put_comm a v undef h2]; exact h.2⟩

def wpAnyH (r : Option Nat) (P : Program) (md : Region.Mode) (ops : Array Oper) (Q : Exit → Act → World → Prop) (S : List Blk) : Nat → Array Bool → Act → World → Prop
  | 0, listed, a, w => Region.ready md ops listed = [] ∧ Q .normal a w
  | fuel + 1, listed, a, w =>
    (Region.ready md ops listed = [] → Q .normal a w) ∧
    ∀ i ∈ Region.ready md ops listed, wpOpIn (fen r) 0 P ops Q i (fun a' w' => Holds S w' ∧ wpAnyH r P md ops Q S fuel (listed.setIfInBounds i true) a' w') a w

theorem wpAny_of_H {Q : Exit → Act → World → Prop} : ∀ (fuel : Nat) (listed : Array Bool) (a : Act) (w : World), wpAnyH r P md ops Q S fuel listed a w → wpAnyIn (fen r) 0 P md ops Q fuel listed a w
  | 0, _, _, _, h => h
  | fuel + 1, _, _, _, h => ⟨h.1, fun i hi => wpOpIn_mono (fun a' w' h' => wpAny_of_H fuel _ a' w' h'.2) (h.2 i hi)⟩

theorem wpAnyH_first {i : Nat} {oi : Oper} {v : Value} {Q : Exit → Act → World → Prop} (hi : ops[i]? = some oi) (hsel : ∀ (j : Nat) (o : Oper) cs b, ops[j]? = some o → o.op ≠ .select cs b) (hdef : ∀ (j : Nat) (o : Oper) c, ops[j]? = some o → o.op ≠ .defer c)
    (hQ : NoPanic Q) :
    ∀ (fuel : Nat) (listed : Array Bool) (a : Act) (w : World),
      (∀ j oj, ops[j]? = some oj → j ≠ i → listed.getD j true = false → (∀ e ∈ oj.after, Region.binds md e = true → e.on ≠ i) → oi.apart ops oj = true) →
      i ∈ Region.ready md ops listed → YieldsH P ops S oi v a → Holds S w →
      wpAnyH r P md ops Q S fuel (listed.setIfInBounds i true) (a.put oi.dst v) w → wpAnyH r P md ops Q S (fuel + 1) listed a w := by
  intro fuel
  induction fuel with
  | zero =>
    intro listed a w _ hr hy hS H
    refine ⟨fun h => (by rw [h] at hr; cases hr), fun j hj => ?_⟩
    by_cases hji : j = i
    · subst hji; exact hy.wpOpIn (hdef _ _ · hi) hi hS ⟨hS, H⟩
    · have := ready_mono hj hji
      rw [H.1] at this
      cases this
  | succ fuel ih =>
    intro listed a w hfree hr hy hS H
    refine ⟨fun h => (by rw [h] at hr; cases hr), fun j hj => ?_⟩
    by_cases hji : j = i
    · subst hji; exact hy.wpOpIn (hdef _ _ · hi) hi hS ⟨hS, H⟩
    · have h1 := H.2 j (ready_mono hj hji)
      obtain ⟨hjun, oj, hoj, hall⟩ := mem_ready.1 hj
      have hnot : ∀ e ∈ oj.after, Region.binds md e = true → e.on ≠ i := fun e he hb heq => by
        have h1 := hall e he hb
        have h0 := (mem_ready.1 hr).1
        rw [heq] at h1
        rcases Nat.lt_or_ge i listed.size with h' | h'
        · simp [h'] at h0 h1; rw [h0] at h1; cases h1
        · simp [Array.getElem?_eq_none h'] at h1
      have h2 := wpOpIn_putH (hdef _ _ · hoj) hoj (hfree j oj hoj hji hjun hnot) (fun cs b => hsel i oi cs b hi) (fun cs b => hsel j oj cs b hoj) hQ hy h1
      have hfree' : ∀ k ok, ops[k]? = some ok → k ≠ i → (listed.setIfInBounds j true).getD k true = false →
          (∀ e ∈ ok.after, Region.binds md e = true → e.on ≠ i) → oi.apart ops ok = true := fun k ok hk hki hun hno => by
        refine hfree k ok hk hki ?_ hno
        by_cases hjk : j = k
        · subst hjk; exact hjun
        · rw [getD_set_ne true hjk] at hun; exact hun
      refine wpOpIn_mono (fun a' w' h3 => ⟨h3.2.1, ih (listed.setIfInBounds j true) a' w' hfree' (ready_mono hr (Ne.symm hji)) h3.1 h3.2.1 ?_⟩) h2
      rw [Array.setIfInBounds_comm _ _ hji]
      exact h3.2.2

/-- The one order in which the region is walked: whatever is passive first; then the one that acts. -/
def canon (eff : Oper → Bool) (ops : Array Oper) : Nat → Array Bool → Option (List Nat)
  | 0, listed => if (Region.ready .any ops listed).isEmpty then some [] else none
  | n + 1, listed =>
    match (Region.ready .any ops listed).find? fun i => ((ops[i]?).map fun o => !eff o && Region.free .any ops listed i).getD false with
    | some i => (canon eff ops n (listed.setIfInBounds i true)).map (i :: ·)
    | none => match Region.ready .any ops listed with
      | [] => some []
      | [k] => (canon eff ops n (listed.setIfInBounds k true)).map (k :: ·)
      | _ => none

/-- A walk through a region in its one order. -/
inductive WD (P : Program) (r : Option Nat) (S : List Blk) (ops : Array Oper) (eff : Oper → Bool) (K : Fr → Hp → Prop) : List Nat → Fr → Hp → Prop
  | nil {f h} : K f h → WD P r S ops eff K [] f h
  | pas {f h i o v l} : ops[i]? = some o → eff o = false → gate (gof ops o) f = some true → S0 P f S o v → fits o.dst f = true → WD P r S ops eff K l (f.put o.dst v) h → WD P r S ops eff K (i :: l) f h
  | off {f h i o l} : ops[i]? = some o → gate (gof ops o) f = some false → fits o.dst f = true → WD P r S ops eff K l (f.put o.dst undef) h → WD P r S ops eff K (i :: l) f h
  | eff {f h i o post l} : ops[i]? = some o → eff o = true → gate (gof ops o) f = some true → S1 P r o f h post → fits o.dst f = true → (∀ v h', post v h' → WD P r S ops eff K l (f.put o.dst v) h') → WD P r S ops eff K (i :: l) f h
  | effS {f h hh i o post l} {g : Value → Hp → Hp} : ops[i]? = some o → eff o = true → gate (gof ops o) f = some true → hh.flatten.Perm (S ++ h.flatten) → S1 P r o f hh post → fits o.dst f = true → (∀ v h'', post v h'' → h''.flatten.Perm (S ++ (g v h'').flatten)) → (∀ v h'', post v h'' → WD P r S ops eff K l (f.put o.dst v) (g v h'')) → WD P r S ops eff K (i :: l) f h
  | know {f f' h l} : (∀ a, f.ok a → f'.ok a) → WD P r S ops eff K l f' h → WD P r S ops eff K l f h

/-- its first step -/
inductive WDs (P : Program) (r : Option Nat) (S : List Blk) (ops : Array Oper) (eff : Oper → Bool) (K : Fr → Hp → Prop) : List Nat → Fr → Hp → Prop
  | nil {f h} : K f h → WDs P r S ops eff K [] f h
  | pas {f h i o v l} : ops[i]? = some o → eff o = false → gate (gof ops o) f = some true → S0 P f S o v → fits o.dst f = true → WD P r S ops eff K l (f.put o.dst v) h → WDs P r S ops eff K (i :: l) f h
  | off {f h i o l} : ops[i]? = some o → gate (gof ops o) f = some false → fits o.dst f = true → WD P r S ops eff K l (f.put o.dst undef) h → WDs P r S ops eff K (i :: l) f h
  | eff {f h i o post l} : ops[i]? = some o → eff o = true → gate (gof ops o) f = some true → S1 P r o f h post → fits o.dst f = true → (∀ v h', post v h' → WD P r S ops eff K l (f.put o.dst v) h') → WDs P r S ops eff K (i :: l) f h
  | effS {f h hh i o post l} {g : Value → Hp → Hp} : ops[i]? = some o → eff o = true → gate (gof ops o) f = some true → hh.flatten.Perm (S ++ h.flatten) → S1 P r o f hh post → fits o.dst f = true → (∀ v h'', post v h'' → h''.flatten.Perm (S ++ (g v h'').flatten)) → (∀ v h'', post v h'' → WD P r S ops eff K l (f.put o.dst v) (g v h'')) → WDs P r S ops eff K (i :: l) f h

theorem WD.strip {eff : Oper → Bool} {K : Fr → Hp → Prop} {l : List Nat} {f : Fr} {h : Hp} (H : WD P r S ops eff K l f h) : ∃ f', (∀ a, f.ok a → f'.ok a) ∧ WDs P r S ops eff K l f' h := by
  induction H with
  | nil k => exact ⟨_, fun _ h => h, .nil k⟩
  | pas a b c d e k _ => exact ⟨_, fun _ h => h, .pas a b c d e k⟩
  | off a b c k _ => exact ⟨_, fun _ h => h, .off a b c k⟩
  | eff a b c d e k _ => exact ⟨_, fun _ h => h, .eff a b c d e k⟩
  | effS a b c p d e q k _ => exact ⟨_, fun _ h => h, .effS a b c p d e q k⟩
  | know hk _ ih => obtain ⟨f', h1, h2⟩ := ih; exact ⟨f', fun a h => h1 a (hk a h), h2⟩

open Classical in
theorem WD.effS' {eff : Oper → Bool} {K : Fr → Hp → Prop} {f : Fr} {h hh : Hp} {i : Nat} {o : Oper} {post : Value → Hp → Prop} {l : List Nat} (h1 : ops[i]? = some o) (h2 : eff o = true) (h3 : gate (gof ops o) f = some true) (h4 : hh.flatten.Perm (S ++ h.flatten)) (h5 : S1 P r o f hh post) (h6 : fits o.dst f = true)
    (H : ∀ v h'', post v h'' → ∃ h' : Hp, h''.flatten.Perm (S ++ h'.flatten) ∧ WD P r S ops eff K l (f.put o.dst v) h') : WD P r S ops eff K (i :: l) f h :=
  WD.effS (g := fun v h'' => if hp : post v h'' then Classical.choose (H v h'' hp) else []) h1 h2 h3 h4 h5 h6 (fun v h'' hp => by simp only [dif_pos hp]; exact (Classical.choose_spec (H v h'' hp)).1) (fun v h'' hp => by simp only [dif_pos hp]; exact (Classical.choose_spec (H v h'' hp)).2)

def onlyNormal (Q : Act → World → Prop) : Exit → Act → World → Prop
  | .normal, a, w => Q a w
  | _, _, _ => False

theorem Sat.holds {E w : World} {S R : List Blk} {h : Hp} (st : Sat E ((S ++ h.flatten) ++ R) w) : Holds S w :=
  fun p hp => st.cell p (by simp [hp])

theorem wd_sound {eff : Oper → Bool} {K : Fr → Hp → Prop} {E : World} {R : List Blk} (hs : Region.noSelect ops = true) (hd : noDefer ops = true) :
    ∀ (fuel : Nat) (order : List Nat) (listed : Array Bool) (f : Fr) (h : Hp), canon eff ops fuel listed = some order → WD P r S ops eff K order f h →
      ∀ a w, f.ok a → Sat E ((S ++ h.flatten) ++ R) w →
        wpAnyH r P .any ops (onlyNormal fun a w => ∃ f h, K f h ∧ f.ok a ∧ Sat E ((S ++ h.flatten) ++ R) w) S fuel listed a w := by
  have hQ : NoPanic (onlyNormal fun a w => ∃ f h, K f h ∧ f.ok a ∧ Sat E ((S ++ h.flatten) ++ R) w) := fun _ _ _ h => h
  intro fuel
  induction fuel with
  | zero =>
    intro order listed f₀ h hc hw₀ a w ok₀ st
    obtain ⟨f, hk, hw⟩ := hw₀.strip
    have ok := hk a ok₀
    clear hk hw₀ ok₀
    simp only [canon] at hc
    split at hc
    · rename_i he
      simp only [Option.some.injEq] at hc
      subst hc
      cases hw with
      | nil k => exact ⟨by simpa using he, f, h, k, ok, st⟩
    · cases hc
  | succ fuel ih =>
    intro order listed f₀ h hc hw₀ a w ok₀ st
    obtain ⟨f, hk, hw⟩ := hw₀.strip
    have ok := hk a ok₀
    clear hk hw₀ ok₀
    simp only [canon] at hc
    split at hc
    · rename_i i hf
      cases ht : canon eff ops fuel (listed.setIfInBounds i true) with
      | none => rw [ht] at hc; cases hc
      | some l =>
        rw [ht] at hc
        simp only [Option.map_some, Option.some.injEq] at hc
        subst hc
        have hmem := List.mem_of_find?_eq_some hf
        have hcond := List.find?_some hf
        have take : ∀ (o : Oper) (v : Value), ops[i]? = some o → YieldsH P ops S o v a → WD P r S ops eff K l (f.put o.dst v) h → fits o.dst f = true →
            wpAnyH r P .any ops (onlyNormal fun a w => ∃ f h, K f h ∧ f.ok a ∧ Sat E ((S ++ h.flatten) ++ R) w) S (fuel + 1) listed a w := fun o v ho hy hw' hft => by
          have hfree : Region.free .any ops listed i = true := by
            simp only [ho, Option.map_some, Option.getD_some, Bool.and_eq_true] at hcond
            exact hcond.2
          exact wpAnyH_first ho (Region.noSelect_spec hs) (fun j o c hj => noDefer_spec hd hj c) hQ fuel listed a w (Region.free_spec ho hfree) hmem hy st.holds (ih l _ _ _ ht hw' _ w (ok.put hft) st)
        cases hw with
        | @pas _ _ _ o v _ ho _ hg h0 hft hw' =>
          refine take o v ho (.inl ⟨by rw [wanted_gate]; exact gate_ok ok hg, fun w hS => h0.2.2 _ w (fun x u hx => ok.ev hx) hS⟩) hw' hft
        | @off _ _ _ o _ ho hg hft hw' =>
          exact take o undef ho (.inr ⟨by rw [wanted_gate]; exact gate_ok ok hg, rfl⟩) hw' hft
        | @eff _ _ _ o post _ ho he hg _ hft hw' =>
          simp only [ho, Option.map_some, Option.getD_some, he, Bool.not_true, Bool.false_and] at hcond
          cases hcond
        | @effS _ _ _ _ o post _ _ ho he hg _ _ hft _ hw' =>
          simp only [ho, Option.map_some, Option.getD_some, he, Bool.not_true, Bool.false_and] at hcond
          cases hcond
    · split at hc
      · rename_i hr
        simp only [Option.some.injEq] at hc
        subst hc
        cases hw with
        | nil k => exact ⟨fun _ => ⟨f, h, k, ok, st⟩, by rw [hr]; simp⟩
      · rename_i k hr
        cases ht : canon eff ops fuel (listed.setIfInBounds k true) with
        | none => rw [ht] at hc; cases hc
        | some l =>
          rw [ht] at hc
          simp only [Option.map_some, Option.some.injEq] at hc
          subst hc
          refine ⟨fun h0 => (by rw [hr] at h0; cases h0), fun i hi => ?_⟩
          rw [hr] at hi
          simp only [List.mem_singleton] at hi
          subst hi
          cases hw with
          | @pas _ _ _ o v _ ho _ hg h0 hft hw' =>
            refine YieldsH.wpOpIn (S := S) (v := v) (fun c => noDefer_spec hd ho c) ho (.inl ⟨by rw [wanted_gate]; exact gate_ok ok hg, fun w hS => h0.2.2 _ w (fun x u hx => ok.ev hx) hS⟩) st.holds ⟨st.holds, ih l _ _ _ ht hw' _ w (ok.put hft) st⟩
          | @off _ _ _ o _ ho hg hft hw' =>
            exact YieldsH.wpOpIn (S := S) (v := undef) (fun c => noDefer_spec hd ho c) ho (.inr ⟨by rw [wanted_gate]; exact gate_ok ok hg, rfl⟩) st.holds ⟨st.holds, ih l _ _ _ ht hw' _ w (ok.put hft) st⟩
          | @eff _ _ _ o post _ ho he hg h1 hft hw' =>
            unfold wpOpIn
            simp only [ho]
            rw [wanted_gate, gate_ok ok hg]
            simp only [if_true]
            have st1 : Sat E (h.flatten ++ (S ++ R)) w := st.perm (by
              rw [List.append_assoc]
              exact (List.perm_append_comm_assoc S h.flatten R))
            refine h1.run E (S ++ R) a w _ _ (fun x u hx => ok.ev hx) st1 fun v h' w' hp st' => ?_
            have st2 : Sat E ((S ++ h'.flatten) ++ R) w' := st'.perm (by
              rw [List.append_assoc]
              exact (List.perm_append_comm_assoc h'.flatten S R))
            exact ⟨st2.holds, ih l _ _ _ ht (hw' v h' hp) _ w' (ok.put hft) st2⟩
          | @effS _ _ hh _ o post _ g ho he hg hpm h1 hft hpq hw' =>
            unfold wpOpIn
            simp only [ho]
            rw [wanted_gate, gate_ok ok hg]
            simp only [if_true]
            have st1 : Sat E (hh.flatten ++ R) w := st.perm (hpm.symm.append_right R)
            refine h1.run E R a w _ _ (fun x u hx => ok.ev hx) st1 fun v h'' w' hp st' => ?_
            have st2 : Sat E ((S ++ (g v h'').flatten) ++ R) w' := st'.perm ((hpq v h'' hp).append_right R)
            exact ⟨st2.holds, ih l _ _ _ ht (hw' v h'' hp) _ w' (ok.put hft) st2⟩
      · cases hc

/-- A region that draws its order. S: blocks that stay as they are; h: what the acting operations may use. -/
theorem WP.draw {id : Nat} {Q : Exit → Fr → Hp → Prop} {f : Fr} {S h : Hp} (order : List Nat) (eff : Oper → Bool) (hm : P.follows .mixedOrders = true) (hs : Region.noSelect ops = true) (hd : noDefer ops = true)
    (hc : canon eff ops ops.size (Array.replicate ops.size false) = some order) (H : WD P r S.flatten ops eff (fun f h => Q .normal f (S ++ h)) order f h) : WP P r (.region id ops true) Q f (S ++ h) := by
  refine ⟨fun E R a w ok st => ?_⟩
  have st' : Sat E ((S.flatten ++ h.flatten) ++ R) { w with drawn := w.drawn + 1 } := by
    rw [List.flatten_append] at st
    exact ⟨st.nodup, st.cell, st.tape, st.os, st.out, Nat.le_succ_of_le st.drawn, st.size⟩
  refine wpIn_mono (wpIn_region_any hm (wpAny_of_H _ _ _ _ (wd_sound hs hd _ _ _ _ _ hc H a _ ok st'))) fun e a w hq => ?_
  cases e with
  | normal => obtain ⟨f, h, k, ok, st⟩ := hq; exact ⟨f, S ++ h, k, ok, by rw [List.flatten_append]; exact st⟩
  | _ => exact hq.elim

end
end Go.Proofs.Ytjglpmaedphbnaa
