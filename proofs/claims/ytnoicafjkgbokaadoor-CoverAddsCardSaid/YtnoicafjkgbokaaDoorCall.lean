/-
  Functions by their contracts.
-/
import Derived.Test.YtnoicafjkgbokaaDoorOps
import Derived.RangeFuncLeaves
import Derived.RangeFuncCalls
namespace Go.Proofs.YtnoicafjkgbokaaDoor
open Go

structure FN (P : Program) (g : Nat) (args : List Value) (h : Hp) (post : Value → Hp → Prop) : Prop where
  enters : ∀ a w, (callFunc g a).run P w = .ok (.enter g a) w
  run : ∀ (E : World) (R : List Blk) (w : World), Sat E (h.flatten ++ R) w → Calls P g ⟨args⟩ w fun e w' => ∃ v h', e = .returned v ∧ post v h' ∧ Sat E (h'.flatten ++ R) w'

def tup : List Value → Value
  | [v] => v
  | vs => .tuple ⟨vs⟩

def initS : Nat → List Value → List (Nat × Value)
  | _, [] => []
  | i, v :: vs => (i, v) :: initS (i + 1) vs

inductive Res (P : Program) (f : Fr) (S : List Blk) : List ResultVar → List Value → Prop
  | nil : Res P f S [] []
  | tmp {t v rs vs} : look t f.s = some v → Res P f S rs vs → Res P f S (.tmp t :: rs) (v :: vs)
  | cell {a T b off v rs vs} : look a f.s = some (.pointer (some ⟨b, off, none⟩)) → (∀ w, Holds S w → (loadVar T ⟨b, off, none⟩).run P w = .ok v w) → Res P f S rs vs → Res P f S (.cell a T :: rs) (v :: vs)

inductive Leaves (P : Program) (fn : Func) (post : Value → Hp → Prop) : List Deferred → Fr → Hp → Prop
  | done {f h vs v} : Res P f h.flatten fn.results.toList vs → tup vs = v → post v h → Leaves P fn post [] f h
  | drop {f : Fr} {h h' k : Hp} {ds} : h.flatten.Perm (h'.flatten ++ k.flatten) → Leaves P fn post ds f h' → Leaves P fn post ds f h
  | mark {f : Fr} {h h' : Hp} {D args ds} : h.flatten.Perm ((D, .deferred (some [])) :: h'.flatten) → Leaves P fn post ds f h' → Leaves P fn post ({ target := .collected D, args := args } :: ds) f h

def RetP (P : Program) (fn : Func) (post : Value → Hp → Prop) : Exit → Fr → Hp → Prop
  | .normal, f, h => Leaves P fn post f.d f h
  | .ret, f, h => Leaves P fn post f.d f h
  | _, _, _ => False

section
variable {P : Program} {r : Option Nat} {Q : Exit → Fr → Hp → Prop} {f : Fr} {h : Hp}

def resOne (tmps : Array Value) : ResultVar → Sem Value
  | .tmp t => pure (tmps.getD t undef)
  | .cell a t => do loadVar t (← asAddr (tmps.getD a undef))
theorem Res.run {f : Fr} {S : List Blk} {a : Act} {w : World} (ok : f.ok a) (hS : Holds S w) {rs : List ResultVar} {vs : List Value} (H : Res P f S rs vs) :
    (rs.mapM (resOne a.tmps)).run P w = .ok vs w := by
  induction H with
  | nil => simp
  | @tmp t v rs vs ht hr ih =>
    have e : a.tmps.getD t undef = v := by rw [Array.getD_eq_getD_getElem?, ok.slot _ _ ht]; rfl
    simp only [List.mapM_cons, resOne, e, Sem.run_bind, Sem.run_pure, Result.andThen_ok, ih]
  | @cell c T b off v rs vs ht hl hr ih =>
    have e : a.tmps.getD c undef = .pointer (some ⟨b, off, none⟩) := by rw [Array.getD_eq_getD_getElem?, ok.slot _ _ ht]; rfl
    simp only [List.mapM_cons, resOne, e, asAddr, Sem.run_bind, Sem.run_pure, Result.andThen_ok, hl w hS, ih]

theorem run_results {fn : Func} {S : List Blk} {a : Act} {w : World} (ok : f.ok a) (hS : Holds S w) {vs : List Value} (hr : Res P f S fn.results.toList vs) : (results fn a.tmps).run P w = .ok (tup vs) w := by
  have := Res.run (P := P) ok hS hr
  have e : results fn a.tmps = (do let vs ← fn.results.mapM (resOne a.tmps); pure (if h : vs.size = 1 then vs[0] else .tuple vs)) := by
    unfold results
    congr 2
  rw [e, Array.mapM_eq_mapM_toList]
  simp only [Sem.run_bind, Sem.run_map, this, Result.andThen_ok, Sem.run_pure]
  congr 1
  rcases vs with _ | ⟨v, _ | ⟨u, vs⟩⟩ <;> rfl

theorem Leaves.sound {fn : Func} {post : Value → Hp → Prop} {E : World} {R : List Blk} {a : Act} : ∀ {ds : List Deferred} {f : Fr} {h : Hp}, Leaves P fn post ds f h → f.ok a → ∀ w, Sat E (h.flatten ++ R) w →
    LeavesInM (fen none) 0 P fn a.tmps (fun e w' => ∃ v h', e = .returned v ∧ post v h' ∧ Sat E (h'.flatten ++ R) w') ds .returning w := by
  intro ds f h hl
  induction hl with
  | @done f h vs v hr hv hp =>
    intro ok w st
    exact ⟨v, by rw [← hv]; exact run_results ok (fun p hp => st.cell p (List.mem_append.2 (.inl hp))) hr, v, h, rfl, hp, st⟩
  | @drop f h h' k ds hp _ ih =>
    intro ok w st
    refine ih ok w ?_
    have := st.perm (h' := (h'.flatten ++ R) ++ k.flatten) ((hp.append_right R).trans (by rw [List.append_assoc, List.append_assoc]; exact (List.perm_append_comm (l₁ := k.flatten) (l₂ := R)).append_left _))
    exact this.sub
  | @mark f h h' D args ds hp _ ih =>
    intro ok w st
    have st' : Sat E ((((D, .deferred (some [])) :: h'.flatten) ++ R)) w := st.perm (hp.append_right R)
    have hD : w.heap[D]? = some (.deferred (some [])) := st'.cell (D, .deferred (some [])) (by simp)
    have hu : Sat E ((([(D, .deferred none)] : List Blk) :: h').flatten ++ R) { w with heap := w.heap.setIfInBounds D (.deferred none) } :=
      Sat.upd (h := [(D, .deferred (some []))] :: h') (b := D) (o := .deferred (some [])) (o' := .deferred none) (h' := [(D, .deferred none)] :: h') st'
    refine ⟨by simp, .inl ⟨D, { w with heap := w.heap.setIfInBounds D (.deferred none) }, rfl, ?_, ih ok _ ?_⟩⟩
    · have hlt := (Array.getElem?_eq_some_iff.1 hD).1
      simp [Instr.takeDeferred, getObj, setObj, Sem.run, Sem.run_bind, hD]
    · have := hu.perm (h' := (h'.flatten ++ R) ++ [(D, .deferred none)]) (by simp only [List.flatten_cons, List.append_assoc, List.cons_append, List.nil_append]; exact (List.perm_append_singleton _ _).symm.trans (by rw [List.append_assoc]))
      exact this.sub

theorem initS_slot : ∀ (i : Nat) (vs : List Value) (t : Nat) (v : Value), look t (initS i vs) = some v → i ≤ t ∧ vs[t - i]? = some v
  | i, [], t, v, h => by simp [initS, look] at h
  | i, u :: vs, t, v, h => by
    simp only [initS, look] at h
    cases e : Nat.beq i t with
    | true =>
      rw [e] at h
      obtain rfl := Nat.eq_of_beq_eq_true e
      simp only [cond_true, Option.some.injEq] at h
      subst h
      simp
    | false =>
      rw [e] at h
      obtain ⟨h1, h2⟩ := initS_slot (i + 1) vs t v h
      refine ⟨by omega, ?_⟩
      rw [show t - i = (t - (i + 1)) + 1 from by omega]
      simpa using h2

/-- A function's contract from its body. -/
theorem FN.intro {g : Nat} {fn : Func} {c : Code} {args : List Value} {post : Value → Hp → Prop} (n : Nat) (s : List (Nat × Value)) (hf : P.funcs[g]? = some fn) (hb : fn.body = some c) (he : ∀ a w, (callFunc g a).run P w = .ok (.enter g a) w)
    (hn : fn.ntmps = n) (hs : initS 0 args = s) (hle : Nat.ble args.length n = true) (H : WP P none c (RetP P fn post) { n := n, s := s, d := [] } h) : FN P g args h post := by
  refine ⟨he, fun E R w st => ?_⟩
  subst hn hs
  have hle' := Nat.le_of_ble_eq_true hle
  have ok : ({ n := fn.ntmps, s := initS 0 args, d := [] } : Fr).ok { tmps := (⟨args⟩ : Array Value) ++ Array.replicate (fn.ntmps - args.length) undef, defers := [] } := by
    refine ⟨by simp; omega, fun t v ht => ?_, rfl⟩
    have h2 : args[t]? = some v := (initS_slot 0 args t v ht).2
    have hlt : t < args.length := (List.getElem?_eq_some_iff.1 h2).1
    rw [Array.getElem?_append_left (by simpa using hlt)]
    simpa using h2
  refine (callsIn_wide (n := 0)).1 (callsIn_of_wp_marks (F := fen none) hf hb trivial ?_)
  refine wpIn_mono (H.run E R _ w ok st) ?_
  rintro e a w' ⟨f', h', q, ok', st'⟩
  cases e with
  | normal => have := Leaves.sound q ok' w' st'; rw [← ok'.defs] at this; exact this
  | ret => have := Leaves.sound q ok' w' st'; rw [← ok'.defs] at this; exact this
  | _ => exact q.elim

theorem FN.mono {g : Nat} {args : List Value} {post post' : Value → Hp → Prop} (H : FN P g args h post) (hp : ∀ v h', post v h' → post' v h') : FN P g args h post' :=
  ⟨H.enters, fun E R w st => (H.run E R w st).mono fun _ _ ⟨v, h', e, q, s⟩ => ⟨v, h', e, hp _ _ q, s⟩⟩

variable {d : Option Tmp} {ty : TypeId} {p : String} {af : Array Edge} {gd : Option (Nat × Bool)}

theorem calls_fen {g : Nat} {args : Array Value} {w : World} {Rl : Ending → World → Prop} (h : Calls P g args w Rl) : CallsIn (fen r) 0 P g args w Rl := by
  have := (callsIn_wide (n := 0)).2 h
  cases r with
  | none => exact this
  | some l => exact this

/-- A call by a contract: what it wants, of the heap, and what is left. -/
theorem S1.call {fo : Operand} {args : Array Operand} {argT : Array TypeId} {g : Nat} {fi caps vs : List Value} {hf hr : Hp} {post : Value → Hp → Prop} (hfn : ev f fo = some (.func (.func g) ⟨fi⟩ ⟨caps⟩)) (ha : evs f args.toList = some vs)
    (H : FN P g (fi ++ vs ++ caps) hf post) (ht : h.flatten.Perm (hf.flatten ++ hr.flatten)) :
    S1 P r ⟨d, .call ⟨.value fo, args, argT⟩, ty, p, af, gd⟩ f h (fun v h'' => ∃ h', post v h' ∧ h'' = h' ++ hr) := by
  refine ⟨fun E R a w next Q hx st k => ⟨fun _ _ => trivial, ?_⟩⟩
  rw [Oper.semAt_eq _ _ _ (by intro c; simp)]
  have e1 : (execOp a.eval ⟨d, .call ⟨.value fo, args, argT⟩, ty, p, af, gd⟩).run P w = .ok (.enter g ⟨fi ++ vs ++ caps⟩) w := by
    have := H.enters ((⟨fi⟩ ++ ⟨vs⟩) ++ ⟨caps⟩) w
    simp only [execOp, resolve, hx _ _ hfn, evs_arr hx ha, Sem.run_bind, Deferred.ofValue, Sem.run_pure, Result.andThen_ok, invoke, this]
    simp
  rw [e1]
  refine ⟨fun hd => (by cases hd), ?_⟩
  have st' : Sat E (hf.flatten ++ (hr.flatten ++ R)) w := by rw [← List.append_assoc]; exact st.perm (ht.append_right R)
  refine CallsIn.mono (calls_fen (H.run E _ w st')) ?_
  rintro e w' ⟨v, h', rfl, hp, st''⟩
  exact k v (h' ++ hr) w' ⟨h', hp, rfl⟩ (by rw [List.flatten_append, List.append_assoc]; exact st'')
theorem S1.callF {g : Nat} {args : Array Operand} {argT : Array TypeId} {vs : List Value} {hf hr : Hp} {post : Value → Hp → Prop} (ha : evs f args.toList = some vs)
    (H : FN P g vs hf post) (ht : h.flatten.Perm (hf.flatten ++ hr.flatten)) :
    S1 P r ⟨d, .call ⟨.value (.func g), args, argT⟩, ty, p, af, gd⟩ f h (fun v h'' => ∃ h', post v h' ∧ h'' = h' ++ hr) :=
  S1.call (fi := []) (caps := []) rfl ha (by simpa using H) ht

theorem WO.call {o : Oper} {os : List GOp} {post : Value → Hp → Prop} {hr : Hp} (hs : S1 P r o f h (fun v h'' => ∃ h', post v h' ∧ h'' = h' ++ hr)) (hd : fits o.dst f = true) (H : ∀ v h', post v h' → WO P r os Q (f.put o.dst v) (h' ++ hr)) : WO P r ((o, none) :: os) Q f h :=
  WO.step hd hs fun v h'' ⟨h', hp, e⟩ => by rw [e]; exact H v h' hp

/-! the end of a function -/
theorem r0 {fn : Func} {post : Value → Hp → Prop} (hr : fn.results.toList = []) (hp : post (.tuple ⟨[]⟩) h) : Leaves P fn post [] f h := Leaves.done (vs := []) (by rw [hr]; exact .nil) rfl hp
theorem r1 {fn : Func} {post : Value → Hp → Prop} {t : Nat} {v : Value} (hr : fn.results.toList = [.tmp t]) (hv : look t f.s = some v) (hp : post v h) : Leaves P fn post [] f h := Leaves.done (vs := [v]) (by rw [hr]; exact .tmp hv .nil) rfl hp
theorem r2 {fn : Func} {post : Value → Hp → Prop} {t t' : Nat} {v v' : Value} (hr : fn.results.toList = [.tmp t, .tmp t']) (hv : look t f.s = some v) (hv' : look t' f.s = some v') (hp : post (.tuple ⟨[v, v']⟩) h) : Leaves P fn post [] f h := Leaves.done (vs := [v, v']) (by rw [hr]; exact .tmp hv (.tmp hv' .nil)) rfl hp
theorem r3 {fn : Func} {post : Value → Hp → Prop} {t t' t'' : Nat} {v v' v'' : Value} (hr : fn.results.toList = [.tmp t, .tmp t', .tmp t'']) (hv : look t f.s = some v) (hv' : look t' f.s = some v') (hv'' : look t'' f.s = some v'') (hp : post (.tuple ⟨[v, v', v'']⟩) h) : Leaves P fn post [] f h := Leaves.done (vs := [v, v', v'']) (by rw [hr]; exact .tmp hv (.tmp hv' (.tmp hv'' .nil))) rfl hp
/-- the mark of a range over a function, taken away at the end -/
theorem rm {fn : Func} {post : Value → Hp → Prop} {D : Nat} {args : Array Value} {ds : List Deferred} {h' : Hp} (hp : h.flatten.Perm (([[(D, .deferred (some []))]] : Hp).flatten ++ h'.flatten)) (H : Leaves P fn post ds f h') : Leaves P fn post ({ target := .collected D, args := args } :: ds) f h :=
  Leaves.mark (by simpa using hp) H

/-! what is taken of a heap -/
theorem take0 {h : Hp} : h.flatten.Perm (([] : Hp).flatten ++ h.flatten) := by simp
theorem take1 {c : List Blk} {cs h r1 r2 : Hp} (h1 : h.flatten.Perm (c ++ r1.flatten)) (h2 : r1.flatten.Perm (cs.flatten ++ r2.flatten)) : h.flatten.Perm ((c :: cs).flatten ++ r2.flatten) := by
  rw [List.flatten_cons, List.append_assoc]
  exact h1.trans (h2.append_left c)
theorem at0 {c : List Blk} {h : Hp} : ((c :: h) : Hp).flatten.Perm (c ++ h.flatten) := by simp
theorem atS {c x : List Blk} {h r1 : Hp} (k : h.flatten.Perm (c ++ r1.flatten)) : ((x :: h) : Hp).flatten.Perm (c ++ (x :: r1 : Hp).flatten) := by
  rw [List.flatten_cons, List.flatten_cons]
  exact (k.append_left x).trans (List.perm_append_comm_assoc x c _)

end
end Go.Proofs.YtnoicafjkgbokaaDoor
