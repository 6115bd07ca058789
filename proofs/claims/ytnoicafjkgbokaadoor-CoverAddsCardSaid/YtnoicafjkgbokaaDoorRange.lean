/-
  A range over a function.
-/
import Derived.Test.YtnoicafjkgbokaaDoorSlice
import Derived.RangeFuncRecord
namespace Go.Proofs.YtnoicafjkgbokaaDoor
open Go

/-- A call of yield l at vs, from the blocks h: it answers b, as 'post' says. -/
structure YieldOK (P : Program) (l : Nat) (vs : List Value) (h : Hp) (post : Bool → Hp → Prop) : Prop where
  run : ∀ (E : World) (R : List Blk) (w : World), Sat E (h.flatten ++ R) w → ∃ fn tmps assign body, (Instr.yield l ⟨vs⟩).run P w = .ok (.round l fn tmps assign body) w ∧
    RoundIn (fen none) 0 P l fn tmps assign body w fun e w' => ∃ b h', e = .returned (.bool b) ∧ post b h' ∧ Sat E (h'.flatten ++ R) w'

/-- An iterator's contract: g, with what it has captured, over the blocks hi of its own and hs that it reads and the rounds leave as they are. N: what may come behind what has come; S: all has come. -/
structure Iter (P : Program) (g : Nat) (caps : List Value) (hi hs : Hp) {α : Type} (enc : α → List Value) (N : List α → α → Prop) (S : List α → Prop) : Prop where
  enters : ∀ a w, (callFunc g a).run P w = .ok (.enter g a) w
  run : ∀ (l : Nat) (J Jx : List α → Hp → Prop), (∀ pre h, J pre h → ∃ h2 : Hp, h.flatten.Perm (hs.flatten ++ h2.flatten)) → (∀ pre x h, J pre h → N pre x → YieldOK P l (enc x) h fun b h' => (b = true ∧ J (pre ++ [x]) h') ∨ (b = false ∧ Jx (pre ++ [x]) h')) →
    ∀ h0, J [] h0 → FN P g (.func (.yield l) #[] #[] :: caps) (hi ++ h0) fun _ h' => ∃ xs h1, h' = hi ++ h1 ∧ ((S xs ∧ J xs h1) ∨ Jx xs h1)

/-- The same; its own blocks may change: at the end they are as F says. -/
structure IterF (P : Program) (g : Nat) (caps : List Value) (hi hs : Hp) {α : Type} (enc : α → List Value) (N : List α → α → Prop) (S : List α → Prop) (F : Hp → Prop) : Prop where
  enters : ∀ a w, (callFunc g a).run P w = .ok (.enter g a) w
  run : ∀ (l : Nat) (J Jx : List α → Hp → Prop), (∀ pre h, J pre h → ∃ h2 : Hp, h.flatten.Perm (hs.flatten ++ h2.flatten)) → (∀ pre x h, J pre h → N pre x → YieldOK P l (enc x) h fun b h' => (b = true ∧ J (pre ++ [x]) h') ∨ (b = false ∧ Jx (pre ++ [x]) h')) →
    ∀ h0, J [] h0 → FN P g (.func (.yield l) #[] #[] :: caps) (hi ++ h0) fun _ h' => ∃ hi' xs h1, F hi' ∧ h' = hi' ++ h1 ∧ ((S xs ∧ J xs h1) ∨ Jx xs h1)

def putL (s : List (Nat × Value)) : List Nat → List Value → List (Nat × Value)
  | p :: ps, v :: vs => putL ((p, v) :: s) ps vs
  | _, _ => s

/-- How a round may end. -/
def RoundQ {α : Type} (I : List α → Hp → Prop) (Ix : Code → List α → Hp → Prop) (pre : List α) : Exit → Fr → Hp → Prop
  | .normal, _, h => I pre h
  | .ret, _, h => Ix .ret pre h
  | .exit i, _, h => Ix (.exit i) pre h
  | .goto i, _, h => Ix (.goto i) pre h
  | _, _, _ => False

section
variable {P : Program} {Q : Exit → Fr → Hp → Prop} {f : Fr} {h : Hp}

theorem ok_putL {a : Act} : ∀ (ps : List Nat) (vs : List Value) (s : List (Nat × Value)) (tmps : Array Value) (n : Nat) (ds : List Deferred), (⟨n, s, ds⟩ : Fr).ok ⟨tmps, ds⟩ → (∀ p ∈ ps, p < n) →
    (⟨n, putL s ps vs, ds⟩ : Fr).ok ⟨(ps.zip vs).foldl (fun t (x : Nat × Value) => t.setIfInBounds x.1 x.2) tmps, ds⟩
  | [], _, s, tmps, n, ds, ok, _ => by simpa [putL] using ok
  | p :: ps, [], s, tmps, n, ds, ok, _ => by simpa [putL] using ok
  | p :: ps, v :: vs, s, tmps, n, ds, ok, hp => by
    have ok' : (⟨n, (p, v) :: s, ds⟩ : Fr).ok ⟨tmps.setIfInBounds p v, ds⟩ := ok.put (d := some p) (v := v) (Nat.ble_eq_true_of_le (hp p (by simp)))
    exact ok_putL (a := a) ps vs _ _ n ds ok' (fun q hq => hp q (List.mem_cons_of_mem _ hq))

theorem WP.rangeFuncF {gop : Operand} {ps : Array Tmp} {assign body : Code} {g : Nat} {caps : List Value} {hi hs hb : Hp} {α : Type} {enc : α → List Value} {N : List α → α → Prop} {S : List α → Prop} {F : Hp → Prop}
    (it : IterF P g caps hi hs enc N S F) (hg : ev f gop = some (.func (.func g) ⟨[]⟩ ⟨caps⟩)) (hp : h.flatten.Perm (hi.flatten ++ hb.flatten)) (hn : ∀ p ∈ ps.toList, p < f.n) (he : ∀ x, (enc x).length = ps.size)
    (I : List α → Hp → Prop) (Ix : Code → List α → Hp → Prop) (hI : ∀ pre h, I pre h → ∃ h2 : Hp, h.flatten.Perm (hs.flatten ++ h2.flatten)) (h0 : I [] hb)
    (round : ∀ l pre x h, I pre h → N pre x → WP P (some l) assign (Then (fun f1 h1 => WP P (some l) body (RoundQ I Ix (pre ++ [x])) f1 h1) (fun _ _ _ => False)) ⟨f.n, putL f.s ps.toList (enc x), []⟩ h)
    (done : ∀ D hi' xs h, F hi' → S xs → I xs h → Q .normal ⟨f.n, f.s, { target := .collected D, args := #[] } :: f.d⟩ ([(D, .deferred (some []))] :: (hi' ++ h)))
    (stop : ∀ D hi' c xs h, F hi' → Ix c xs h → WP P none c Q ⟨f.n, f.s, { target := .collected D, args := #[] } :: f.d⟩ ([(D, .deferred (some []))] :: (hi' ++ h))) :
    WP P none (.rangeFunc gop ps assign body) Q f h := by
  refine ⟨fun E R a w ok st => wpIn_rangeFunc ?_⟩
  intro fn _
  have st0 : Sat E (((hi ++ hb).flatten) ++ R) w := by rw [List.flatten_append]; exact st.perm (hp.append_right R)
  have st1 := Sat.new (h := hi ++ hb) st0 (.deferred (some []))
  let rec_ : LoopState → Option Code → Loop := fun s pe => { state := s, pending := pe, fn, tmps := a.tmps, params := ps, assign, body, defers := w.heap.size }
  have st2 := Sat.new (h := [(w.heap.size, .deferred (some []))] :: (hi ++ hb)) st1 (.loop (rec_ .ready none))
  have hs1 : ({ w with heap := w.heap.push (.deferred (some [])) } : World).heap.size = w.heap.size + 1 := by simp
  rw [hs1] at st2
  let W1 : World := { w with heap := (w.heap.push (.deferred (some []))).push (.loop (rec_ .ready none)) }
  let J : List α → Hp → Prop := fun pre hJ => ∃ h, hJ = [(w.heap.size + 1, .loop (rec_ .ready none))] :: h ∧ I pre h
  let Jx : List α → Hp → Prop := fun pre hJ => ∃ c h, hJ = [(w.heap.size + 1, .loop (rec_ .done (some c)))] :: h ∧ Ix c pre h
  have hyield : ∀ pre x hJ, J pre hJ → N pre x → YieldOK P (w.heap.size + 1) (enc x) hJ fun b h' => (b = true ∧ J (pre ++ [x]) h') ∨ (b = false ∧ Jx (pre ++ [x]) h') := by
    rintro pre x _ ⟨h, rfl, hIp⟩ hN
    refine ⟨fun E' R' W stW => ?_⟩
    have hl : W.heap[w.heap.size + 1]? = some (.loop (rec_ .ready none)) := stW.cell (w.heap.size + 1, _) (by simp)
    have hy := run_yield (P := P) (args := ⟨enc x⟩) hl (by simp [rec_, he x])
    refine ⟨_, _, _, _, hy, roundIn_of_wpIn (F := fen none) trivial ?_⟩
    have okr : (⟨f.n, putL f.s ps.toList (enc x), []⟩ : Fr).ok ⟨(ps.zip ⟨enc x⟩).foldl (fun t (x : Nat × Value) => t.setIfInBounds x.1 x.2) a.tmps, []⟩ := by
      have := ok_putL (a := a) ps.toList (enc x) f.s a.tmps f.n [] ⟨ok.size, ok.slot, rfl⟩ hn
      rw [← Array.foldl_toList]
      simpa using this
    have stR : Sat E' (h.flatten ++ ((w.heap.size + 1, .loop (rec_ .ready none)) :: R')) W := stW.perm (by
      simp only [List.flatten_cons, List.cons_append, List.nil_append]
      exact List.perm_middle.symm)
    refine wpIn_mono ((round (w.heap.size + 1) pre x h hIp hN).run E' _ _ W okr stR) ?_
    rintro e a1 w1 ⟨f1, h1, q, ok1, s1⟩
    cases e with
    | normal =>
      have s1' : Sat E' (([(w.heap.size + 1, .loop (rec_ .ready none))] :: h1 : Hp).flatten ++ R') w1 := s1.perm (by
        simp only [List.flatten_cons, List.cons_append, List.nil_append]
        exact List.perm_middle)
      have hl1 : w1.heap[w.heap.size + 1]? = some (.loop (rec_ .ready none)) := s1'.cell (w.heap.size + 1, _) (by simp)
      have hbr := run_beginRound (P := P) hl1 rfl
      have s2 := Sat.upd (h := [(w.heap.size + 1, .loop (rec_ .ready none))] :: h1) (b := w.heap.size + 1) (o := .loop (rec_ .ready none)) (o' := .loop { rec_ .ready none with state := .busy }) s1'
      refine ⟨_, hbr, ?_⟩
      have s2' : Sat E' (h1.flatten ++ ((w.heap.size + 1, .loop { rec_ .ready none with state := .busy }) :: R')) (w1.putObj (w.heap.size + 1) (.loop { rec_ .ready none with state := .busy })) := s2.perm (by
        simp only [List.flatten_cons, List.cons_append, List.nil_append]
        exact List.perm_middle.symm)
      refine wpIn_mono (q.run E' _ a1 _ ok1 s2') ?_
      rintro e a3 w3 ⟨f3, h3, q3, ok3, s3⟩
      have s3' : Sat E' (([(w.heap.size + 1, .loop { rec_ .ready none with state := .busy })] :: h3 : Hp).flatten ++ R') w3 := s3.perm (by
        simp only [List.flatten_cons, List.cons_append, List.nil_append]
        exact List.perm_middle)
      have hl3 : w3.heap[w.heap.size + 1]? = some (.loop { rec_ .ready none with state := .busy }) := s3'.cell (w.heap.size + 1, _) (by simp)
      have fin : ∀ (jump : Option Code), (Instr.endRound (w.heap.size + 1) jump).run P w3 = .ok (.bool jump.isNone) (w3.putObj (w.heap.size + 1) (.loop (rec_ (if jump.isNone then .ready else .done) jump))) ∧
          Sat E' (([(w.heap.size + 1, .loop (rec_ (if jump.isNone then .ready else .done) jump))] :: h3 : Hp).flatten ++ R') (w3.putObj (w.heap.size + 1) (.loop (rec_ (if jump.isNone then .ready else .done) jump))) := fun jump =>
        ⟨run_endRound (P := P) jump hl3, Sat.upd (h := [(w.heap.size + 1, .loop { rec_ .ready none with state := .busy })] :: h3) (b := w.heap.size + 1) (o := .loop { rec_ .ready none with state := .busy }) (o' := .loop (rec_ (if jump.isNone then .ready else .done) jump)) s3'⟩
      cases e with
      | normal => exact ⟨_, _, (fin none).1, true, _, rfl, .inl ⟨rfl, _, rfl, q3⟩, (fin none).2⟩
      | ret => exact ⟨_, _, (fin (some .ret)).1, false, _, rfl, .inr ⟨rfl, _, _, rfl, q3⟩, (fin (some .ret)).2⟩
      | exit i => exact ⟨_, _, (fin (some (.exit i))).1, false, _, rfl, .inr ⟨rfl, _, _, rfl, q3⟩, (fin (some (.exit i))).2⟩
      | goto i => exact ⟨_, _, (fin (some (.goto i))).1, false, _, rfl, .inr ⟨rfl, _, _, rfl, q3⟩, (fin (some (.goto i))).2⟩
      | panic c => exact q3.elim
      | outgrown => exact q3.elim
    | _ => exact q.elim
  have hJ : ∀ pre h, J pre h → ∃ h2 : Hp, h.flatten.Perm (hs.flatten ++ h2.flatten) := by
    rintro pre _ ⟨h, rfl, hIp⟩
    obtain ⟨h2, hp2⟩ := hI pre h hIp
    refine ⟨[(w.heap.size + 1, .loop (rec_ .ready none))] :: h2, ?_⟩
    simp only [List.flatten_cons, List.cons_append, List.nil_append]
    exact (hp2.cons _).trans List.perm_middle.symm
  have hF := it.run (w.heap.size + 1) J Jx hJ hyield ([(w.heap.size + 1, .loop (rec_ .ready none))] :: hb) ⟨hb, rfl, h0⟩
  refine ⟨w.heap.size + 1, [{ target := .collected w.heap.size, args := #[] }], W1, { target := .fn (.func g) ⟨caps⟩, args := #[.func (.yield (w.heap.size + 1)) #[] #[]] }, W1, g, ⟨.func (.yield (w.heap.size + 1)) #[] #[] :: caps⟩, W1, run_enterLoop_outer _ _ _ _ _, ?_, fun _ _ => trivial, ?_, fun hd => (by cases hd), ?_⟩
  · simp only [resolve, ok.ev hg, Deferred.ofValue]
    simp [Act.eval]
  · have := it.enters (#[.func (.yield (w.heap.size + 1)) #[] #[]] ++ ⟨caps⟩) W1
    simp only [invoke, this]
    simp
  · have stF : Sat E ((hi ++ ([(w.heap.size + 1, .loop (rec_ .ready none))] :: hb)).flatten ++ ((w.heap.size, .deferred (some [])) :: R)) W1 := st2.perm (by
      simp only [List.flatten_cons, List.flatten_append, List.cons_append, List.nil_append, List.append_assoc]
      refine (List.Perm.cons _ ?_).trans (List.perm_middle (l₁ := hi.flatten)).symm
      refine List.perm_middle.symm.trans ?_
      exact ((List.perm_middle (l₁ := hb.flatten)).symm.append_left _)
      )
    refine CallsIn.mono (calls_fen (hF.run E _ W1 stF)) ?_
    rintro e w' ⟨v, h', rfl, ⟨hi', xs, hJ, hF', rfl, hend⟩, s'⟩
    have tail : ∀ (s : LoopState) (pe : Option Code) (h1 : Hp), s ≠ .busy → Sat E ((hi' ++ ([(w.heap.size + 1, .loop (rec_ s pe))] :: h1)).flatten ++ ((w.heap.size, .deferred (some [])) :: R)) w' →
        (Instr.endLoop (w.heap.size + 1)).run P w' = .ok pe (w'.putObj (w.heap.size + 1) (.loop { rec_ s pe with state := .exhausted })) ∧
        Sat E (([(w.heap.size, .deferred (some []))] :: (hi' ++ h1) : Hp).flatten ++ R) (w'.putObj (w.heap.size + 1) (.loop { rec_ s pe with state := .exhausted })) := fun s pe h1 hsb sx => by
      have sx1 : Sat E (([(w.heap.size + 1, .loop (rec_ s pe))] :: [(w.heap.size, .deferred (some []))] :: (hi' ++ h1) : Hp).flatten ++ R) w' := sx.perm (by
        simp only [List.flatten_cons, List.flatten_append, List.cons_append, List.nil_append, List.append_assoc]
        refine (List.perm_middle (l₁ := hi'.flatten)).trans (List.Perm.cons _ ?_)
        rw [← List.append_assoc, ← List.append_assoc]
        exact List.perm_middle)
      have hl : w'.heap[w.heap.size + 1]? = some (.loop (rec_ s pe)) := sx1.cell (w.heap.size + 1, _) (by simp)
      refine ⟨run_endLoop (P := P) hl hsb, ?_⟩
      have := Sat.upd (h := [(w.heap.size + 1, .loop (rec_ s pe))] :: [(w.heap.size, .deferred (some []))] :: (hi' ++ h1)) (b := w.heap.size + 1) (o := .loop (rec_ s pe)) (o' := .loop { rec_ s pe with state := .exhausted }) sx1
      have := this.perm (h' := (([(w.heap.size, .deferred (some []))] :: (hi' ++ h1) : Hp).flatten ++ R) ++ [(w.heap.size + 1, .loop { rec_ s pe with state := .exhausted })]) (by
        simp only [List.flatten_cons, List.cons_append, List.nil_append]
        exact (List.perm_append_singleton _ _).symm)
      exact this.sub
    have okd : ∀ D, (⟨f.n, f.s, { target := .collected D, args := #[] } :: f.d⟩ : Fr).ok { a with defers := [{ target := .collected D, args := #[] }] ++ a.defers } := fun D => ⟨ok.size, ok.slot, by simp [ok.defs]⟩
    rcases hend with ⟨hS, h1, rfl, hI⟩ | ⟨c, h1, rfl, hx⟩
    · obtain ⟨e1, e2⟩ := tail _ _ h1 (by simp) s'
      exact ⟨none, _, e1, _, _, done _ hi' xs h1 hF' hS hI, okd _, e2⟩
    · obtain ⟨e1, e2⟩ := tail _ _ h1 (by simp) s'
      exact ⟨some c, _, e1, (stop w.heap.size hi' c xs h1 hF' hx).run E R _ _ (okd _) e2⟩
theorem WP.rangeFunc {gop : Operand} {ps : Array Tmp} {assign body : Code} {g : Nat} {caps : List Value} {hi hs hb : Hp} {α : Type} {enc : α → List Value} {N : List α → α → Prop} {S : List α → Prop}
    (it : Iter P g caps hi hs enc N S) (hg : ev f gop = some (.func (.func g) ⟨[]⟩ ⟨caps⟩)) (hp : h.flatten.Perm (hi.flatten ++ hb.flatten)) (hn : ∀ p ∈ ps.toList, p < f.n) (he : ∀ x, (enc x).length = ps.size)
    (I : List α → Hp → Prop) (Ix : Code → List α → Hp → Prop) (hI : ∀ pre h, I pre h → ∃ h2 : Hp, h.flatten.Perm (hs.flatten ++ h2.flatten)) (h0 : I [] hb)
    (round : ∀ l pre x h, I pre h → N pre x → WP P (some l) assign (Then (fun f1 h1 => WP P (some l) body (RoundQ I Ix (pre ++ [x])) f1 h1) (fun _ _ _ => False)) ⟨f.n, putL f.s ps.toList (enc x), []⟩ h)
    (done : ∀ D xs h, S xs → I xs h → Q .normal ⟨f.n, f.s, { target := .collected D, args := #[] } :: f.d⟩ ([(D, .deferred (some []))] :: (hi ++ h)))
    (stop : ∀ D c xs h, Ix c xs h → WP P none c Q ⟨f.n, f.s, { target := .collected D, args := #[] } :: f.d⟩ ([(D, .deferred (some []))] :: (hi ++ h))) :
    WP P none (.rangeFunc gop ps assign body) Q f h :=
  WP.rangeFuncF (F := fun x => x = hi) ⟨it.enters, fun l J Jx a b h0 hj => (it.run l J Jx a b h0 hj).mono fun _ _ ⟨xs, h1, e, hx⟩ => ⟨hi, xs, h1, rfl, e, hx⟩⟩ hg hp hn he I Ix hI h0 round (fun D hi' xs h e hS hi => by subst e; exact done D xs h hS hi) (fun D hi' c xs h e hx => by subst e; exact stop D c xs h hx)
end

section
variable {P : Program} {Q : Exit → Fr → Hp → Prop} {f : Fr} {h : Hp}
/-- 'h' is 'h1' and more -/
abbrev Sup (h h1 : Hp) : Prop := ∃ k : Hp, h.flatten.Perm (h1.flatten ++ k.flatten)
theorem Sup.trans {a b c : Hp} (h1 : Sup a b) (h2 : Sup b c) : Sup a c := by
  obtain ⟨k1, h1⟩ := h1
  obtain ⟨k2, h2⟩ := h2
  refine ⟨k2 ++ k1, h1.trans ?_⟩
  rw [List.flatten_append, ← List.append_assoc]
  exact h2.append_right _
theorem Sup.cons {a b : Hp} (c : List Blk) (h1 : Sup a b) : Sup (c :: a) (c :: b) := by
  obtain ⟨k1, h1⟩ := h1
  refine ⟨k1, ?_⟩
  rw [List.flatten_cons, List.flatten_cons, List.append_assoc]
  exact h1.append_left c
theorem Sup.pre {a b : Hp} : ∀ (c : Hp), Sup a b → Sup (c ++ a) (c ++ b)
  | [], h => h
  | x :: c, h => Sup.cons x (Sup.pre c h)
theorem Sup.rfl' {a : Hp} : Sup a a := ⟨[], by simp⟩
theorem Sup.has {a : Hp} {b : Nat} {o : Obj} [k : Has a b o] : Sup a [[(b, o)]] := by
  obtain ⟨s, t, e⟩ := List.append_of_mem k.mem
  refine ⟨[s ++ t], ?_⟩
  rw [e]
  simp
theorem WP.sup {r : Option Nat} {cd : Code} {h' : Hp} (hp : Sup h h') (H : WP P r cd Q f h') : WP P r cd Q f h := by
  obtain ⟨k, hp⟩ := hp
  exact WP.perm hp H
/-- the same; what the heap holds beyond the invariant is let go -/
theorem WP.rangeSup {gop : Operand} {ps : Array Tmp} {assign body : Code} {g : Nat} {caps : List Value} {hi hs hb : Hp} {α : Type} {enc : α → List Value} {N : List α → α → Prop} {S : List α → Prop}
    (it : Iter P g caps hi hs enc N S) (hg : ev f gop = some (.func (.func g) ⟨[]⟩ ⟨caps⟩)) (hp : h.flatten.Perm (hi.flatten ++ hb.flatten)) (hn : ps.toList.all (fun p => Nat.blt p f.n) = true) (he : ∀ x, (enc x).length = ps.size)
    (I : List α → Hp → Prop) (Ix : Code → List α → Hp → Prop) (hI : ∀ pre h, I pre h → Sup h hs) (h0 : ∃ h1, I [] h1 ∧ Sup hb h1)
    (round : ∀ l pre x h, I pre h → N pre x → WP P (some l) assign (Then (fun f1 h1 => WP P (some l) body (RoundQ (fun xs h => ∃ h1, I xs h1 ∧ Sup h h1) (fun c xs h => ∃ h1, Ix c xs h1 ∧ Sup h h1) (pre ++ [x])) f1 h1) (fun _ _ _ => False)) ⟨f.n, putL f.s ps.toList (enc x), []⟩ h)
    (done : ∀ D xs h1 hx, S xs → I xs h1 → Sup hx ([(D, .deferred (some []))] :: (hi ++ h1)) → Q .normal ⟨f.n, f.s, { target := .collected D, args := #[] } :: f.d⟩ hx)
    (stop : ∀ D c xs h1 hx, Ix c xs h1 → Sup hx ([(D, .deferred (some []))] :: (hi ++ h1)) → WP P none c Q ⟨f.n, f.s, { target := .collected D, args := #[] } :: f.d⟩ hx) :
    WP P none (.rangeFunc gop ps assign body) Q f h := by
  refine WP.rangeFunc it hg hp (fun p hm => Nat.le_of_ble_eq_true (List.all_eq_true.1 hn p hm)) he (fun xs h => ∃ h1, I xs h1 ∧ Sup h h1) (fun c xs h => ∃ h1, Ix c xs h1 ∧ Sup h h1) ?_ h0 ?_ ?_ ?_
  · rintro pre h ⟨h1, hi1, hs1⟩
    exact hs1.trans (hI pre h1 hi1)
  · rintro l pre x h ⟨h1, hi1, hs1⟩ hN
    exact WP.sup hs1 (round l pre x h1 hi1 hN)
  · rintro D xs h hS ⟨h1, hi1, hs1⟩
    exact done D xs h1 _ hS hi1 (Sup.cons _ (Sup.pre hi hs1))
  · rintro D c xs h ⟨h1, hi1, hs1⟩
    exact stop D c xs h1 _ hi1 (Sup.cons _ (Sup.pre hi hs1))
/-- the same; what the heap holds beyond the invariant is let go -/
theorem WP.rangeSupF {gop : Operand} {ps : Array Tmp} {assign body : Code} {g : Nat} {caps : List Value} {hi hs hb : Hp} {α : Type} {enc : α → List Value} {N : List α → α → Prop} {S : List α → Prop} {F : Hp → Prop}
    (it : IterF P g caps hi hs enc N S F) (hg : ev f gop = some (.func (.func g) ⟨[]⟩ ⟨caps⟩)) (hp : h.flatten.Perm (hi.flatten ++ hb.flatten)) (hn : ps.toList.all (fun p => Nat.blt p f.n) = true) (he : ∀ x, (enc x).length = ps.size)
    (I : List α → Hp → Prop) (Ix : Code → List α → Hp → Prop) (hI : ∀ pre h, I pre h → Sup h hs) (h0 : ∃ h1, I [] h1 ∧ Sup hb h1)
    (round : ∀ l pre x h, I pre h → N pre x → WP P (some l) assign (Then (fun f1 h1 => WP P (some l) body (RoundQ (fun xs h => ∃ h1, I xs h1 ∧ Sup h h1) (fun c xs h => ∃ h1, Ix c xs h1 ∧ Sup h h1) (pre ++ [x])) f1 h1) (fun _ _ _ => False)) ⟨f.n, putL f.s ps.toList (enc x), []⟩ h)
    (done : ∀ D hi' xs h1 hx, F hi' → S xs → I xs h1 → Sup hx ([(D, .deferred (some []))] :: (hi' ++ h1)) → Q .normal ⟨f.n, f.s, { target := .collected D, args := #[] } :: f.d⟩ hx)
    (stop : ∀ D hi' c xs h1 hx, F hi' → Ix c xs h1 → Sup hx ([(D, .deferred (some []))] :: (hi' ++ h1)) → WP P none c Q ⟨f.n, f.s, { target := .collected D, args := #[] } :: f.d⟩ hx) :
    WP P none (.rangeFunc gop ps assign body) Q f h := by
  refine WP.rangeFuncF it hg hp (fun p hm => Nat.le_of_ble_eq_true (List.all_eq_true.1 hn p hm)) he (fun xs h => ∃ h1, I xs h1 ∧ Sup h h1) (fun c xs h => ∃ h1, Ix c xs h1 ∧ Sup h h1) ?_ h0 ?_ ?_ ?_
  · rintro pre h ⟨h1, hi1, hs1⟩
    exact hs1.trans (hI pre h1 hi1)
  · rintro l pre x h ⟨h1, hi1, hs1⟩ hN
    exact WP.sup hs1 (round l pre x h1 hi1 hN)
  · rintro D hi' xs h hF hS ⟨h1, hi1, hs1⟩
    exact done D hi' xs h1 _ hF hS hi1 (Sup.cons _ (Sup.pre hi' hs1))
  · rintro D hi' c xs h hF ⟨h1, hi1, hs1⟩
    exact stop D hi' c xs h1 _ hF hi1 (Sup.cons _ (Sup.pre hi' hs1))
end

section
variable {P : Program} {f : Fr} {h : Hp} {d : Option Tmp} {ty : TypeId} {p : String} {af : Array Edge} {gd : Option (Nat × Bool)}
/-- In an iterator: the call of yield. -/
theorem S1.yield {fo : Operand} {args : Array Operand} {argT : Array TypeId} {l : Nat} {vs : List Value} {hf hr : Hp} {post : Bool → Hp → Prop} (hfn : ev f fo = some (.func (.yield l) #[] #[])) (ha : evs f args.toList = some vs)
    (H : YieldOK P l vs hf post) (ht : h.flatten.Perm (hf.flatten ++ hr.flatten)) :
    S1 P none ⟨d, .call ⟨.value fo, args, argT⟩, ty, p, af, gd⟩ f h (fun v h'' => ∃ h', (∃ b, v = .bool b ∧ post b h') ∧ h'' = h' ++ hr) := by
  refine ⟨fun E R a w next Q hx st k => ⟨fun _ _ => trivial, ?_⟩⟩
  rw [Oper.semAt_eq _ _ _ (by intro c; simp)]
  have st' : Sat E (hf.flatten ++ (hr.flatten ++ R)) w := by rw [← List.append_assoc]; exact st.perm (ht.append_right R)
  obtain ⟨fn, tmps, assign, body, hy, hR⟩ := H.run E _ w st'
  have e1 : (execOp a.eval ⟨d, .call ⟨.value fo, args, argT⟩, ty, p, af, gd⟩).run P w = .ok (.round l fn tmps assign body) w := by
    simp only [execOp, resolve, hx _ _ hfn, evs_arr hx ha, Sem.run_bind, Deferred.ofValue, Sem.run_pure, Result.andThen_ok, invoke]
    simpa using hy
  rw [e1]
  refine ⟨fun hd => (by cases hd), RoundIn.mono hR ?_⟩
  rintro e w' ⟨b, h', rfl, hp, st''⟩
  exact k (.bool b) (h' ++ hr) w' ⟨h', ⟨b, rfl, hp⟩, rfl⟩ (by rw [List.flatten_append, List.append_assoc]; exact st'')
end
end Go.Proofs.YtnoicafjkgbokaaDoor
