/-
  The rules as the walks use them: frames written out, short names.
-/
import Derived.Test.YtnoicafjkgbokaaDoorCall
namespace Go.Proofs.YtnoicafjkgbokaaDoor
open Go

class App (a b : Hp) (c : outParam Hp) : Prop where
  eq : a ++ b = c
instance {b} : App [] b b := ⟨rfl⟩
instance {x a b c} [k : App a b c] : App (x :: a) b (x :: c) := ⟨by rw [List.cons_append, k.eq]⟩

section
variable {P : Program} {r : Option Nat} {Q : Exit → Fr → Hp → Prop} {h h' : Hp} {n : Nat} {s : List (Nat × Value)} {dd : List Deferred} {t : Nat} {op : Op} {ty : TypeId} {p : String} {af : Array Edge} {gd : Option (Nat × Bool)} {os : List GOp} {v : Value}

theorem v0 (hs : S0 P ⟨n, s, dd⟩ h.flatten ⟨some t, op, ty, p, af, gd⟩ v) (ht : Nat.blt t n = true) (H : WO P r os Q ⟨n, (t, v) :: s, dd⟩ h) : WO P r ((⟨some t, op, ty, p, af, gd⟩, none) :: os) Q ⟨n, s, dd⟩ h :=
  WO.d0 hs ht H
theorem v1 (hs : S1 P r ⟨some t, op, ty, p, af, gd⟩ ⟨n, s, dd⟩ h (is v h')) (ht : Nat.blt t n = true) (H : WO P r os Q ⟨n, (t, v) :: s, dd⟩ h') : WO P r ((⟨some t, op, ty, p, af, gd⟩, none) :: os) Q ⟨n, s, dd⟩ h :=
  WO.det hs ht H
/-- no slot is written -/
theorem vs (hs : S1 P r ⟨none, op, ty, p, af, gd⟩ ⟨n, s, dd⟩ h (is v h')) (H : WO P r os Q ⟨n, s, dd⟩ h') : WO P r ((⟨none, op, ty, p, af, gd⟩, none) :: os) Q ⟨n, s, dd⟩ h :=
  WO.det hs rfl H
theorem vn {ob : Obj} (hs : S1 P r ⟨some t, op, ty, p, af, gd⟩ ⟨n, s, dd⟩ h (newp ob h)) (ht : Nat.blt t n = true) (H : ∀ b, WO P r os Q ⟨n, (t, .pointer (some ⟨b, 0, none⟩)) :: s, dd⟩ ([(b, ob)] :: h)) : WO P r ((⟨some t, op, ty, p, af, gd⟩, none) :: os) Q ⟨n, s, dd⟩ h :=
  WO.new hs ht H
/-- whatever comes -/
theorem ve {post : Value → Hp → Prop} (hs : S1 P r ⟨some t, op, ty, p, af, gd⟩ ⟨n, s, dd⟩ h post) (ht : Nat.blt t n = true) (H : ∀ v h', post v h' → WO P r os Q ⟨n, (t, v) :: s, dd⟩ h') : WO P r ((⟨some t, op, ty, p, af, gd⟩, none) :: os) Q ⟨n, s, dd⟩ h :=
  WO.step ht hs H
theorem vnv {g : Nat → Value} {ob : Obj} (hs : S1 P r ⟨some t, op, ty, p, af, gd⟩ ⟨n, s, dd⟩ h (fun v' h' => ∃ b, v' = g b ∧ h' = [(b, ob)] :: h)) (ht : Nat.blt t n = true) (H : ∀ b, WO P r os Q ⟨n, (t, g b) :: s, dd⟩ ([(b, ob)] :: h)) : WO P r ((⟨some t, op, ty, p, af, gd⟩, none) :: os) Q ⟨n, s, dd⟩ h :=
  WO.step ht hs fun _ _ ⟨b, e1, e2⟩ => by rw [e1, e2]; exact H b
theorem vc {post : Value → Hp → Prop} {hr : Hp} (hs : S1 P r ⟨some t, op, ty, p, af, gd⟩ ⟨n, s, dd⟩ h (fun v h'' => ∃ h', post v h' ∧ h'' = h' ++ hr)) (ht : Nat.blt t n = true) (H : ∀ v h', post v h' → WO P r os Q ⟨n, (t, v) :: s, dd⟩ (h' ++ hr)) : WO P r ((⟨some t, op, ty, p, af, gd⟩, none) :: os) Q ⟨n, s, dd⟩ h :=
  WO.call hs ht H
theorem vcn {post : Value → Hp → Prop} {hr : Hp} (hs : S1 P r ⟨none, op, ty, p, af, gd⟩ ⟨n, s, dd⟩ h (fun v h'' => ∃ h', post v h' ∧ h'' = h' ++ hr)) (H : ∀ v h', post v h' → WO P r os Q ⟨n, s, dd⟩ (h' ++ hr)) : WO P r ((⟨none, op, ty, p, af, gd⟩, none) :: os) Q ⟨n, s, dd⟩ h :=
  WO.call hs rfl H
theorem vcd {hf' hr h2 : Hp} (hs : S1 P r ⟨some t, op, ty, p, af, gd⟩ ⟨n, s, dd⟩ h (fun v' h'' => ∃ h', is v hf' v' h' ∧ h'' = h' ++ hr)) (ht : Nat.blt t n = true) [k : App hf' hr h2] (H : WO P r os Q ⟨n, (t, v) :: s, dd⟩ h2) : WO P r ((⟨some t, op, ty, p, af, gd⟩, none) :: os) Q ⟨n, s, dd⟩ h :=
  WO.call hs ht fun _ _ ⟨e1, e2⟩ => by rw [e1, e2, k.eq]; exact H
theorem vcdn {hf' hr h2 : Hp} (hs : S1 P r ⟨none, op, ty, p, af, gd⟩ ⟨n, s, dd⟩ h (fun v' h'' => ∃ h', is v hf' v' h' ∧ h'' = h' ++ hr)) [k : App hf' hr h2] (H : WO P r os Q ⟨n, s, dd⟩ h2) : WO P r ((⟨none, op, ty, p, af, gd⟩, none) :: os) Q ⟨n, s, dd⟩ h :=
  WO.call hs rfl fun _ _ ⟨e1, e2⟩ => by rw [e2, k.eq]; exact H
theorem gT {o : Oper} {g : Option Tmp × Bool} (hg : gate (some g) ⟨n, s, dd⟩ = some true) (H : WO P r ((o, none) :: os) Q ⟨n, s, dd⟩ h) : WO P r ((o, some g) :: os) Q ⟨n, s, dd⟩ h := WO.on hg H
theorem gF {g : Option Tmp × Bool} (hg : gate (some g) ⟨n, s, dd⟩ = some false) (ht : Nat.blt t n = true) (H : WO P r os Q ⟨n, (t, undef) :: s, dd⟩ h) : WO P r ((⟨some t, op, ty, p, af, gd⟩, some g) :: os) Q ⟨n, s, dd⟩ h := WO.off hg ht H
theorem gFn {g : Option Tmp × Bool} (hg : gate (some g) ⟨n, s, dd⟩ = some false) (H : WO P r os Q ⟨n, s, dd⟩ h) : WO P r ((⟨none, op, ty, p, af, gd⟩, some g) :: os) Q ⟨n, s, dd⟩ h := WO.off hg rfl H
theorem vE (H : Q .normal ⟨n, s, dd⟩ h) : WO P r [] Q ⟨n, s, dd⟩ h := WO.nil H
theorem app {f : Fr} {a b c : Hp} [k : App a b c] (H : WO P r os Q f c) : WO P r os Q f (a ++ b) := by rw [k.eq]; exact H
theorem WP.app {f : Fr} {cd : Code} {a b c : Hp} [k : App a b c] (H : WP P r cd Q f c) : WP P r cd Q f (a ++ b) := by rw [k.eq]; exact H
theorem WP.appc {f : Fr} {cd : Code} {x : List Blk} {a b c : Hp} [k : App a b c] (H : WP P r cd Q f (x :: c)) : WP P r cd Q f (x :: (a ++ b)) := by rw [k.eq]; exact H
theorem WO.perm {f : Fr} {k : Hp} (hp : h.flatten.Perm (h'.flatten ++ k.flatten)) (H : WO P r os Q f h') : WO P r os Q f h :=
  ⟨fun E R a w ok hs => H.run E R a w ok (by
    have := hs.perm (h' := (h'.flatten ++ R) ++ k.flatten) ((hp.append_right R).trans (by rw [List.append_assoc, List.append_assoc]; exact (List.perm_append_comm (l₁ := k.flatten) (l₂ := R)).append_left _))
    exact this.sub)⟩
theorem WP.perm {f : Fr} {cd : Code} {k : Hp} (hp : h.flatten.Perm (h'.flatten ++ k.flatten)) (H : WP P r cd Q f h') : WP P r cd Q f h :=
  ⟨fun E R a w ok hs => H.run E R a w ok (by
    have := hs.perm (h' := (h'.flatten ++ R) ++ k.flatten) ((hp.append_right R).trans (by rw [List.append_assoc, List.append_assoc]; exact (List.perm_append_comm (l₁ := k.flatten) (l₂ := R)).append_left _))
    exact this.sub)⟩
theorem see {f : Fr} (H : ∀ os Q, WO P r os Q f h) : WO P r os Q f h := H _ _
theorem WP.see {f : Fr} {cd : Code} (H : ∀ cd Q, WP P r cd Q f h) : WP P r cd Q f h := H _ _

theorem ok_more {t : Nat} {b b' : Bool} (hl : look t s = some (.bool b)) (e : b = b') {a : Act} (ok : (⟨n, s, dd⟩ : Fr).ok a) : (⟨n, (t, .bool b') :: s, dd⟩ : Fr).ok a :=
  ⟨ok.size, fun k u hk => by
      simp only [look] at hk
      cases hb : Nat.beq t k with
      | true =>
        rw [hb] at hk
        obtain rfl := Nat.eq_of_beq_eq_true hb
        simp only [cond_true, Option.some.injEq] at hk
        subst hk
        rw [← e]
        exact ok.slot _ _ hl
      | false => rw [hb] at hk; exact ok.slot _ _ hk, ok.defs⟩

/-- The slot t holds a bool that is not known: two ways. -/
theorem cs {t : Nat} {b : Bool} (hl : look t s = some (.bool b)) (h1 : b = true → WO P r os Q ⟨n, (t, .bool true) :: s, dd⟩ h) (h2 : b = false → WO P r os Q ⟨n, (t, .bool false) :: s, dd⟩ h) : WO P r os Q ⟨n, s, dd⟩ h := by
  cases hb : b
  · exact ⟨fun E R a w ok st => (h2 hb).run E R a w (ok_more hl hb ok) st⟩
  · exact ⟨fun E R a w ok st => (h1 hb).run E R a w (ok_more hl hb ok) st⟩
theorem csP {q : Prop} [hq : Decidable q] (hl : look t s = some (.bool (decide q))) (h1 : q → WO P r os Q ⟨n, (t, .bool true) :: s, dd⟩ h) (h2 : ¬ q → WO P r os Q ⟨n, (t, .bool false) :: s, dd⟩ h) : WO P r os Q ⟨n, s, dd⟩ h :=
  cs hl (fun e => h1 (of_decide_eq_true e)) (fun e => h2 (of_decide_eq_false e))
theorem csN {q : Prop} [hq : Decidable q] (hl : look t s = some (.bool (!decide q))) (h1 : ¬ q → WO P r os Q ⟨n, (t, .bool true) :: s, dd⟩ h) (h2 : q → WO P r os Q ⟨n, (t, .bool false) :: s, dd⟩ h) : WO P r os Q ⟨n, s, dd⟩ h :=
  cs hl (fun e => h1 (by simpa using e)) (fun e => h2 (by simpa using e))
theorem WP.condN {f : Fr} {c : Operand} {x y : Code} {q : Prop} [hp : Decidable q] (hc : ev f c = some (.bool (!decide q))) (ht : ¬ q → WP P r x Q f h) (hf : q → WP P r y Q f h) : WP P r (.cond c x y) Q f h :=
  WP.cond hc (fun e => ht (by simpa using e)) (fun e => hf (by simpa using e))

theorem csTh {t : Nat} {b : Bool} (hl : look t s = some (.bool b)) (hb : b = true) (H : WO P r os Q ⟨n, (t, .bool true) :: s, dd⟩ h) : WO P r os Q ⟨n, s, dd⟩ h := cs hl (fun _ => H) (fun e => by rw [hb] at e; cases e)
theorem csFh {t : Nat} {b : Bool} (hl : look t s = some (.bool b)) (hb : b = false) (H : WO P r os Q ⟨n, (t, .bool false) :: s, dd⟩ h) : WO P r os Q ⟨n, s, dd⟩ h := cs hl (fun e => by rw [hb] at e; cases e) (fun _ => H)
theorem WP.condTh {f : Fr} {c : Operand} {x y : Code} {b : Bool} (hc : ev f c = some (.bool b)) (hb : b = true) (H : WP P r x Q f h) : WP P r (.cond c x y) Q f h := WP.condT (by rw [hc, hb]) H
theorem WP.condFh {f : Fr} {c : Operand} {x y : Code} {b : Bool} (hc : ev f c = some (.bool b)) (hb : b = false) (H : WP P r y Q f h) : WP P r (.cond c x y) Q f h := WP.condF (by rw [hc, hb]) H
theorem enters {g : Nat} {fn : Func} {c : Code} (hf : P.funcs[g]? = some fn) (hname : (fn.name == "runtime.NumGoroutine") = false) (hb : fn.body = some c) : ∀ a w, (callFunc g a).run P w = .ok (.enter g a) w := by
  intro a w
  simp only [callFunc, program, Sem.run_bind, Sem.run, Result.andThen_ok, hf, hname, hb]
  simp
theorem S1.callC {f : Fr} {d : Option Tmp} {fo : Operand} {args : Array Operand} {argT : Array TypeId} {g : Nat} {caps vs as : List Value} {hf hr : Hp} {post : Value → Hp → Prop} (hfn : ev f fo = some (.func (.func g) ⟨[]⟩ ⟨caps⟩)) (ha : evs f args.toList = some vs)
    (he : vs ++ caps = as) (H : FN P g as hf post) (ht : h.flatten.Perm (hf.flatten ++ hr.flatten)) :
    S1 P r ⟨d, .call ⟨.value fo, args, argT⟩, ty, p, af, gd⟩ f h (fun v h'' => ∃ h', post v h' ∧ h'' = h' ++ hr) :=
  S1.call hfn ha (by simpa [he] using H) ht

/-! regions that draw -/
def actE (o : Oper) : Bool :=
  match o.op with
  | .move _ | .assign _ | .pick .. | .nilCheck _ | .binOp .. | .unOp .. | .convert .. | .fieldAddr .. | .field .. | .indexAddr .. | .index .. | .extract .. | .slice .. | .load .. | .lookup .. | .makeFunc .. | .build .. | .makeInterface .. => false
  | .call { callee := .builtin b, .. } => match b with | .len | .cap | .min | .max => false | _ => true
  | _ => true

variable {ops : Array Oper} {S : List Blk} {eff : Oper → Bool} {K : Fr → Hp → Prop} {pd : Pend} {i : Nat} {l : List Stp}

theorem w0 (ho : ops[i]? = some ⟨some t, op, ty, p, af, gd⟩) (he : eff ⟨some t, op, ty, p, af, gd⟩ = false) (hg : gate (gof ops ⟨some t, op, ty, p, af, gd⟩) ⟨n, s, dd⟩ = some true) (hs : S0 P ⟨n, s, dd⟩ S ⟨some t, op, ty, p, af, gd⟩ v) (ht : Nat.blt t n = true) (H : WD P r S ops eff K pd l ⟨n, (t, v) :: s, dd⟩ h) : WD P r S ops eff K pd ((i, none) :: l) ⟨n, s, dd⟩ h :=
  WD.pas ho he hg hs ht H
theorem wF (ho : ops[i]? = some ⟨some t, op, ty, p, af, gd⟩) (hn : notP pd i = true) (hg : gate (gof ops ⟨some t, op, ty, p, af, gd⟩) ⟨n, s, dd⟩ = some false) (ht : Nat.blt t n = true) (H : WD P r S ops eff K pd l ⟨n, (t, undef) :: s, dd⟩ h) : WD P r S ops eff K pd ((i, none) :: l) ⟨n, s, dd⟩ h :=
  WD.off ho hn hg ht H
theorem wFn (ho : ops[i]? = some ⟨none, op, ty, p, af, gd⟩) (hn : notP pd i = true) (hg : gate (gof ops ⟨none, op, ty, p, af, gd⟩) ⟨n, s, dd⟩ = some false) (H : WD P r S ops eff K pd l ⟨n, s, dd⟩ h) : WD P r S ops eff K pd ((i, none) :: l) ⟨n, s, dd⟩ h :=
  WD.off ho hn hg rfl H
theorem w1 (ho : ops[i]? = some ⟨some t, op, ty, p, af, gd⟩) (hn : notP pd i = true) (he : eff ⟨some t, op, ty, p, af, gd⟩ = true) (hg : gate (gof ops ⟨some t, op, ty, p, af, gd⟩) ⟨n, s, dd⟩ = some true) (hs : S1 P r ⟨some t, op, ty, p, af, gd⟩ ⟨n, s, dd⟩ h (is v h')) (ht : Nat.blt t n = true) (H : WD P r S ops eff K pd l ⟨n, (t, v) :: s, dd⟩ h') : WD P r S ops eff K pd ((i, none) :: l) ⟨n, s, dd⟩ h :=
  WD.eff ho hn he hg hs ht fun _ _ ⟨e1, e2⟩ => by rw [e1, e2]; exact H
theorem ws (ho : ops[i]? = some ⟨none, op, ty, p, af, gd⟩) (hn : notP pd i = true) (he : eff ⟨none, op, ty, p, af, gd⟩ = true) (hg : gate (gof ops ⟨none, op, ty, p, af, gd⟩) ⟨n, s, dd⟩ = some true) (hs : S1 P r ⟨none, op, ty, p, af, gd⟩ ⟨n, s, dd⟩ h (is v h')) (H : WD P r S ops eff K pd l ⟨n, s, dd⟩ h') : WD P r S ops eff K pd ((i, none) :: l) ⟨n, s, dd⟩ h :=
  WD.eff ho hn he hg hs rfl fun _ _ ⟨_, e2⟩ => by rw [e2]; exact H
theorem wn {ob : Obj} (ho : ops[i]? = some ⟨some t, op, ty, p, af, gd⟩) (hn : notP pd i = true) (he : eff ⟨some t, op, ty, p, af, gd⟩ = true) (hg : gate (gof ops ⟨some t, op, ty, p, af, gd⟩) ⟨n, s, dd⟩ = some true) (hs : S1 P r ⟨some t, op, ty, p, af, gd⟩ ⟨n, s, dd⟩ h (newp ob h)) (ht : Nat.blt t n = true) (H : ∀ b, WD P r S ops eff K pd l ⟨n, (t, .pointer (some ⟨b, 0, none⟩)) :: s, dd⟩ ([(b, ob)] :: h)) : WD P r S ops eff K pd ((i, none) :: l) ⟨n, s, dd⟩ h :=
  WD.eff ho hn he hg hs ht fun _ _ ⟨b, e1, e2⟩ => by rw [e1, e2]; exact H b
theorem wnv {g : Nat → Value} {ob : Obj} (ho : ops[i]? = some ⟨some t, op, ty, p, af, gd⟩) (hn : notP pd i = true) (he : eff ⟨some t, op, ty, p, af, gd⟩ = true) (hg : gate (gof ops ⟨some t, op, ty, p, af, gd⟩) ⟨n, s, dd⟩ = some true) (hs : S1 P r ⟨some t, op, ty, p, af, gd⟩ ⟨n, s, dd⟩ h (fun v' h' => ∃ b, v' = g b ∧ h' = [(b, ob)] :: h)) (ht : Nat.blt t n = true) (H : ∀ b, WD P r S ops eff K pd l ⟨n, (t, g b) :: s, dd⟩ ([(b, ob)] :: h)) : WD P r S ops eff K pd ((i, none) :: l) ⟨n, s, dd⟩ h :=
  WD.eff ho hn he hg hs ht fun _ _ ⟨b, e1, e2⟩ => by rw [e1, e2]; exact H b
theorem we {post : Value → Hp → Prop} (ho : ops[i]? = some ⟨some t, op, ty, p, af, gd⟩) (hn : notP pd i = true) (he : eff ⟨some t, op, ty, p, af, gd⟩ = true) (hg : gate (gof ops ⟨some t, op, ty, p, af, gd⟩) ⟨n, s, dd⟩ = some true) (hs : S1 P r ⟨some t, op, ty, p, af, gd⟩ ⟨n, s, dd⟩ h post) (ht : Nat.blt t n = true) (H : ∀ v h', post v h' → WD P r S ops eff K pd l ⟨n, (t, v) :: s, dd⟩ h') : WD P r S ops eff K pd ((i, none) :: l) ⟨n, s, dd⟩ h :=
  WD.eff ho hn he hg hs ht H
theorem wc {post : Value → Hp → Prop} {hr : Hp} (ho : ops[i]? = some ⟨some t, op, ty, p, af, gd⟩) (hn : notP pd i = true) (he : eff ⟨some t, op, ty, p, af, gd⟩ = true) (hg : gate (gof ops ⟨some t, op, ty, p, af, gd⟩) ⟨n, s, dd⟩ = some true) (hs : S1 P r ⟨some t, op, ty, p, af, gd⟩ ⟨n, s, dd⟩ h (fun v h'' => ∃ h', post v h' ∧ h'' = h' ++ hr)) (ht : Nat.blt t n = true) (H : ∀ v h', post v h' → WD P r S ops eff K pd l ⟨n, (t, v) :: s, dd⟩ (h' ++ hr)) : WD P r S ops eff K pd ((i, none) :: l) ⟨n, s, dd⟩ h :=
  WD.eff ho hn he hg hs ht fun v _ ⟨h', hp, e⟩ => by rw [e]; exact H v h' hp
theorem wcn {post : Value → Hp → Prop} {hr : Hp} (ho : ops[i]? = some ⟨none, op, ty, p, af, gd⟩) (hn : notP pd i = true) (he : eff ⟨none, op, ty, p, af, gd⟩ = true) (hg : gate (gof ops ⟨none, op, ty, p, af, gd⟩) ⟨n, s, dd⟩ = some true) (hs : S1 P r ⟨none, op, ty, p, af, gd⟩ ⟨n, s, dd⟩ h (fun v h'' => ∃ h', post v h' ∧ h'' = h' ++ hr)) (H : ∀ v h', post v h' → WD P r S ops eff K pd l ⟨n, s, dd⟩ (h' ++ hr)) : WD P r S ops eff K pd ((i, none) :: l) ⟨n, s, dd⟩ h :=
  WD.eff ho hn he hg hs rfl fun v _ ⟨h', hp, e⟩ => by rw [e]; exact H v h' hp
theorem wcd {hf' hr h2 : Hp} (ho : ops[i]? = some ⟨some t, op, ty, p, af, gd⟩) (hn : notP pd i = true) (he : eff ⟨some t, op, ty, p, af, gd⟩ = true) (hg : gate (gof ops ⟨some t, op, ty, p, af, gd⟩) ⟨n, s, dd⟩ = some true) (hs : S1 P r ⟨some t, op, ty, p, af, gd⟩ ⟨n, s, dd⟩ h (fun v' h'' => ∃ h', is v hf' v' h' ∧ h'' = h' ++ hr)) (ht : Nat.blt t n = true) [k : App hf' hr h2] (H : WD P r S ops eff K pd l ⟨n, (t, v) :: s, dd⟩ h2) : WD P r S ops eff K pd ((i, none) :: l) ⟨n, s, dd⟩ h :=
  WD.eff ho hn he hg hs ht fun _ _ ⟨_, ⟨e1, e2⟩, e⟩ => by rw [e, e1, e2, k.eq]; exact H
theorem wcdn {hf' hr h2 : Hp} (ho : ops[i]? = some ⟨none, op, ty, p, af, gd⟩) (hn : notP pd i = true) (he : eff ⟨none, op, ty, p, af, gd⟩ = true) (hg : gate (gof ops ⟨none, op, ty, p, af, gd⟩) ⟨n, s, dd⟩ = some true) (hs : S1 P r ⟨none, op, ty, p, af, gd⟩ ⟨n, s, dd⟩ h (fun v' h'' => ∃ h', is v hf' v' h' ∧ h'' = h' ++ hr)) [k : App hf' hr h2] (H : WD P r S ops eff K pd l ⟨n, s, dd⟩ h2) : WD P r S ops eff K pd ((i, none) :: l) ⟨n, s, dd⟩ h :=
  WD.eff ho hn he hg hs rfl fun _ _ ⟨_, ⟨e1, e2⟩, e⟩ => by rw [e, e2, k.eq]; exact H
/-- a call that reads what stays, too, and leaves it as it was -/
theorem wcS {S h hh hf' hr h3 h2 : Hp} (ho : ops[i]? = some ⟨some t, op, ty, p, af, gd⟩) (hn : notP pd i = true) (he : eff ⟨some t, op, ty, p, af, gd⟩ = true) (hg : gate (gof ops ⟨some t, op, ty, p, af, gd⟩) ⟨n, s, dd⟩ = some true) [k0 : App S h hh] (hs : S1 P r ⟨some t, op, ty, p, af, gd⟩ ⟨n, s, dd⟩ hh (fun v' h'' => ∃ h', is v hf' v' h' ∧ h'' = h' ++ hr)) (ht : Nat.blt t n = true) [k : App hf' hr h3] (hp : h3.flatten.Perm (S.flatten ++ h2.flatten)) (H : WD P r S.flatten ops eff K pd l ⟨n, (t, v) :: s, dd⟩ h2) : WD P r S.flatten ops eff K pd ((i, none) :: l) ⟨n, s, dd⟩ h :=
  WD.effS' ho hn he hg (by rw [← k0.eq, List.flatten_append]) hs ht fun _ _ ⟨_, ⟨e1, e2⟩, e⟩ => ⟨h2, by rw [e, e2, k.eq]; exact hp, by rw [e1]; exact H⟩
/-- the same, for what is not fixed -/
theorem weS {S h hh : Hp} {post : Value → Hp → Prop} (ho : ops[i]? = some ⟨some t, op, ty, p, af, gd⟩) (hn : notP pd i = true) (he : eff ⟨some t, op, ty, p, af, gd⟩ = true) (hg : gate (gof ops ⟨some t, op, ty, p, af, gd⟩) ⟨n, s, dd⟩ = some true) [k0 : App S h hh] (hs : S1 P r ⟨some t, op, ty, p, af, gd⟩ ⟨n, s, dd⟩ hh post) (ht : Nat.blt t n = true) (H : ∀ v h'', post v h'' → ∃ h' : Hp, h''.flatten.Perm (S.flatten ++ h'.flatten) ∧ WD P r S.flatten ops eff K pd l ⟨n, (t, v) :: s, dd⟩ h') : WD P r S.flatten ops eff K pd ((i, none) :: l) ⟨n, s, dd⟩ h :=
  WD.effS' ho hn he hg (by rw [← k0.eq, List.flatten_append]) hs ht H
theorem wE {S h h2 : Hp} [k : App S h h2] (H : Q .normal ⟨n, s, dd⟩ h2) : WD P r S.flatten ops eff (fun f h => Q .normal f (S ++ h)) none [] ⟨n, s, dd⟩ h :=
  WD.nil (by rw [k.eq]; exact H)
/-- what makes a new block waits -/
theorem wwait {j : Nat} {g : Nat → Value} {ob : Obj} {tj : Tmp} {opj : Op} {tyj : TypeId} {pj : String} {afj : Array Edge} {gdj : Option (Nat × Bool)} (hj : ops[j]? = some ⟨some tj, opj, tyj, pj, afj, gdj⟩) (hg : gate (gof ops ⟨some tj, opj, tyj, pj, afj, gdj⟩) ⟨n, s, dd⟩ = some true) (hl : look tj s = none) (ht : Nat.blt tj n = true) (hpp : pd = none ∨ pd = some (j, g, ob))
    (hs : S1 P r ⟨some tj, opj, tyj, pj, afj, gdj⟩ ⟨n, s, dd⟩ [] (fun v' h' => ∃ b, v' = g b ∧ h' = [[(b, ob)]])) (H : WD P r S ops eff K (some (j, g, ob)) ((i, none) :: l) ⟨n, s, dd⟩ h) : WD P r S ops eff K pd ((i, some j) :: l) ⟨n, s, dd⟩ h :=
  WD.wait ⟨_, _, hj, hg, hs, rfl, hl, ht⟩ hpp H
theorem wcome {g : Nat → Value} {ob : Obj} (ho : ops[i]? = some ⟨some t, op, ty, p, af, gd⟩) (he : eff ⟨some t, op, ty, p, af, gd⟩ = true) (hg : gate (gof ops ⟨some t, op, ty, p, af, gd⟩) ⟨n, s, dd⟩ = some true) (ht : Nat.blt t n = true)
    (hs : S1 P r ⟨some t, op, ty, p, af, gd⟩ ⟨n, s, dd⟩ [] (fun v' h' => ∃ b, v' = g b ∧ h' = [[(b, ob)]])) (H : ∀ b, WD P r S ops eff K none l ⟨n, (t, g b) :: s, dd⟩ ([(b, ob)] :: h)) : WD P r S ops eff K (some (i, g, ob)) ((i, none) :: l) ⟨n, s, dd⟩ h :=
  WD.come ho he hg hs ht H
theorem wapp {f : Fr} {a b c : Hp} [k : App a b c] (H : WD P r S ops eff K pd l f c) : WD P r S ops eff K pd l f (a ++ b) := by rw [k.eq]; exact H
theorem wsee {f : Fr} (H : ∀ ops K pd l, WD P r S ops eff K pd l f h) : WD P r S ops eff K pd l f h := H _ _ _ _

theorem wcs {t : Nat} {b : Bool} (hl : look t s = some (.bool b)) (h1 : b = true → WD P r S ops eff K pd l ⟨n, (t, .bool true) :: s, dd⟩ h) (h2 : b = false → WD P r S ops eff K pd l ⟨n, (t, .bool false) :: s, dd⟩ h) : WD P r S ops eff K pd l ⟨n, s, dd⟩ h := by
  cases hb : b
  · exact WD.know (fun _ => ok_more hl hb) (h2 hb)
  · exact WD.know (fun _ => ok_more hl hb) (h1 hb)
theorem wcsP {t : Nat} {q : Prop} [hq : Decidable q] (hl : look t s = some (.bool (decide q))) (h1 : q → WD P r S ops eff K pd l ⟨n, (t, .bool true) :: s, dd⟩ h) (h2 : ¬ q → WD P r S ops eff K pd l ⟨n, (t, .bool false) :: s, dd⟩ h) : WD P r S ops eff K pd l ⟨n, s, dd⟩ h :=
  wcs hl (fun e => h1 (of_decide_eq_true e)) (fun e => h2 (of_decide_eq_false e))
theorem wcsN {t : Nat} {q : Prop} [hq : Decidable q] (hl : look t s = some (.bool (!decide q))) (h1 : ¬ q → WD P r S ops eff K pd l ⟨n, (t, .bool true) :: s, dd⟩ h) (h2 : q → WD P r S ops eff K pd l ⟨n, (t, .bool false) :: s, dd⟩ h) : WD P r S ops eff K pd l ⟨n, s, dd⟩ h :=
  wcs hl (fun e => h1 (by simpa using e)) (fun e => h2 (by simpa using e))

theorem wcsTh {t : Nat} {b : Bool} (hl : look t s = some (.bool b)) (hb : b = true) (H : WD P r S ops eff K pd l ⟨n, (t, .bool true) :: s, dd⟩ h) : WD P r S ops eff K pd l ⟨n, s, dd⟩ h := wcs hl (fun _ => H) (fun e => by rw [hb] at e; cases e)
theorem wcsFh {t : Nat} {b : Bool} (hl : look t s = some (.bool b)) (hb : b = false) (H : WD P r S ops eff K pd l ⟨n, (t, .bool false) :: s, dd⟩ h) : WD P r S ops eff K pd l ⟨n, s, dd⟩ h := wcs hl (fun e => by rw [hb] at e; cases e) (fun _ => H)
theorem actE_new (o : Oper) (h : isNew o = true) : actE o = true := by
  unfold isNew at h; unfold actE
  split at h <;> simp_all
theorem WP.drawP {id : Nat} {f : Fr} {S he : Hp} (order : List Stp) (hm : P.follows .mixedOrders = true) (hs : Region.noSelect ops = true) (hd : noDefer ops = true)
    (hc : canon actE ops ops.size (Array.replicate ops.size false) = some order) (hp : h.flatten.Perm (S.flatten ++ he.flatten)) (H : WD P r S.flatten ops actE (fun f h => Q .normal f (S ++ h)) none order f he) : WP P r (.region id ops true) Q f h := by
  have := WP.draw (id := id) order actE actE_new hm hs hd hc H
  exact ⟨fun E R a w ok st => this.run E R a w ok (by rw [List.flatten_append]; exact st.perm (hp.append_right R))⟩

end
end Go.Proofs.YtnoicafjkgbokaaDoor
