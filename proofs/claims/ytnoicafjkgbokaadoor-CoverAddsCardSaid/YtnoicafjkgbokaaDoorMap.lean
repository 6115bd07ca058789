/-
  Maps: an object as a list of keys, values and stamps; what the operations do to it.
-/
import Derived.Test.YtnoicafjkgbokaaDoorMore
namespace Go.Proofs.YtnoicafjkgbokaaDoor
open Go

/-- entries: key, value, stamp -/
abbrev ML (κ : Type) := List (κ × Value × Nat)
def entM {κ : Type} (ek : κ → Value) (x : κ × Value × Nat) : MapEntry := { key := ek x.1, val := x.2.1, born := x.2.2 }
abbrev mapO {κ : Type} (ek : κ → Value) (L : ML κ) (clk : Nat) : Obj := .map ⟨L.map (entM ek)⟩ clk

section plain
variable {κ : Type} [DecidableEq κ]
def fndM : ML κ → κ → Nat → Option (Nat × Value)
  | [], _, _ => none
  | x :: L, k, i => if k = x.1 then some (i, x.2.1) else fndM L k (i + 1)
def getM : ML κ → κ → Option Value
  | [], _ => none
  | x :: L, k => if k = x.1 then some x.2.1 else getM L k
def setM : ML κ → κ → Value → ML κ
  | [], _, _ => []
  | x :: L, k, v => if k = x.1 then (k, v, x.2.2) :: L else x :: setM L k v
def delM : ML κ → κ → ML κ
  | [], _ => []
  | x :: L, k => if k = x.1 then L else x :: delM L k
/-- 'm[k] = v' -/
def putM (L : ML κ) (clk : Nat) (k : κ) (v : Value) : ML κ := if (getM L k).isSome then setM L k v else L ++ [(k, v, clk)]
def clkM (L : ML κ) (clk : Nat) (k : κ) : Nat := if (getM L k).isSome then clk else clk + 1
theorem fnd_get (L : ML κ) (k : κ) (i : Nat) : (fndM L k i).map (·.2) = getM L k := by
  induction L generalizing i with
  | nil => rfl
  | cons x L ih => simp only [fndM, getM]; split <;> simp [ih]
theorem fnd_ge (L : ML κ) (k : κ) (i j : Nat) (v : Value) (h : fndM L k i = some (j, v)) : i ≤ j ∧ j - i < L.length := by
  induction L generalizing i with
  | nil => simp [fndM] at h
  | cons x L ih =>
    simp only [fndM] at h
    split at h
    · simp only [Option.some.injEq, Prod.mk.injEq] at h; simp; omega
    · have := ih (i + 1) h; simp; omega
variable {ek : κ → Value}
theorem fnd_key (L : ML κ) (k : κ) (i j : Nat) (v : Value) (h : fndM L k i = some (j, v)) : ((L.map (entM ek))[j - i]?).map (·.key) = some (ek k) := by
  induction L generalizing i with
  | nil => simp [fndM] at h
  | cons x L ih =>
    simp only [fndM] at h
    split at h
    · rename_i e
      simp only [Option.some.injEq, Prod.mk.injEq] at h
      obtain ⟨rfl, _⟩ := h
      simp [entM, e]
    · have h2 := ih (i + 1) h
      have := fnd_ge L k (i + 1) j v h
      rw [show j - i = (j - (i + 1)) + 1 from by omega]
      simpa using h2
theorem modify_set (L : ML κ) (k : κ) (i j : Nat) (v u : Value) (h : fndM L k i = some (j, u)) : (L.map (entM ek)).modify (j - i) (fun e => { e with key := ek k, val := v }) = (setM L k v).map (entM ek) := by
  induction L generalizing i with
  | nil => simp [fndM] at h
  | cons x L ih =>
    simp only [fndM] at h
    split at h
    · rename_i e
      simp only [Option.some.injEq, Prod.mk.injEq] at h
      obtain ⟨rfl, _⟩ := h
      simp [setM, e, entM]
    · rename_i e
      have h2 := ih (i + 1) h
      have := fnd_ge L k (i + 1) j u h
      rw [show j - i = (j - (i + 1)) + 1 from by omega]
      simp [setM, e, h2]
theorem erase_del (L : ML κ) (k : κ) (i j : Nat) (u : Value) (h : fndM L k i = some (j, u)) : (L.map (entM ek)).eraseIdx (j - i) = (delM L k).map (entM ek) := by
  induction L generalizing i with
  | nil => simp [fndM] at h
  | cons x L ih =>
    simp only [fndM] at h
    split at h
    · rename_i e
      simp only [Option.some.injEq, Prod.mk.injEq] at h
      obtain ⟨rfl, _⟩ := h
      simp [delM, e]
    · rename_i e
      have h2 := ih (i + 1) h
      have := fnd_ge L k (i + 1) j u h
      rw [show j - i = (j - (i + 1)) + 1 from by omega]
      simp [delM, e, h2]
theorem del_none (L : ML κ) (k : κ) (h : getM L k = none) : delM L k = L := by
  induction L with
  | nil => rfl
  | cons x L ih =>
    simp only [getM] at h
    split at h
    · cases h
    · rename_i e; simp [delM, e, ih h]
end plain

/-- Keys that the model compares at once. -/
class MKey (P : Program) (K : TypeId) {κ : Type} [DecidableEq κ] (ek : κ → Value) : Prop where
  chk : ∀ e k w, (Instr.checkKey e 10000 K (ek k)).run P w = .ok () w
  fnd : ∀ k (L : ML κ) w, (Instr.findKey K (ek k) (L.map (entM ek))).run P w = .ok (fndM L k 0) w
  same : ∀ k, Instr.sameBits 10000 (ek k) (ek k) = true

theorem findNow_int (q : IntKind) (k : Int) (L : ML Int) (i : Nat) : Instr.findNow (.int q) (.int .i64 k) (L.map (entM (Value.int .i64))) i = some (fndM L k i) := by
  induction L generalizing i with
  | nil => rfl
  | cons x L ih =>
    simp only [List.map_cons, Instr.findNow, entM, Instr.sameNow, fndM]
    by_cases e : k = x.1
    · subst e; simp
    · have : (k == x.1) = false := by simp [e]
      simp only [if_true, this, e, if_false]
      exact ih (i + 1)
theorem run_checkKey_int {P : Program} {K : TypeId} {q : IntKind} (hu : P.underlying K = some (.int q)) (e : Bool) (n : Nat) (v : Value) (w : World) : (Instr.checkKey e (n + 1) K v).run P w = .ok () w := by
  simp only [Instr.checkKey, Sem.run_bind, run_underlying hu, Result.andThen_ok]
  cases v <;> rfl
theorem run_checkKey_str {P : Program} {K : TypeId} (hu : P.underlying K = some .string) (e : Bool) (n : Nat) (v : Value) (w : World) : (Instr.checkKey e (n + 1) K v).run P w = .ok () w := by
  simp only [Instr.checkKey, Sem.run_bind, run_underlying hu, Result.andThen_ok]
  cases v <;> rfl
theorem sameBits_int (n : Nat) (k : Int) : Instr.sameBits (n + 1) (.int .i64 k) (.int .i64 k) = true := by simp [Instr.sameBits]
instance {P K} [u : Und P K (.int .i64)] : MKey P K (Value.int .i64) where
  chk := fun e k w => run_checkKey_int u.eq e 9999 _ w
  fnd := fun k L w => by simp [Instr.findKey, run_underlying u.eq, findNow_int]
  same := fun k => sameBits_int 9999 k

/-- a text of bytes -/
abbrev Str := List UInt8
abbrev sv (l : Str) : Value := .string ⟨⟨l⟩⟩
theorem sv_inj {a b : Str} (h : sv a = sv b) : a = b := by simpa [sv] using h
theorem ba_beq (a b : Str) : ((⟨⟨a⟩⟩ : ByteArray) == ⟨⟨b⟩⟩) = decide (a = b) := by
  have h : ∀ x y : ByteArray, (x == y) = (x.data == y.data) := fun x y => by
    cases x; cases y
    first | rfl | (unfold BEq.beq ByteArray.instBEq; rfl) | simp [BEq.beq]
  rw [h]
  by_cases e : a = b
  · subst e; simp
  · simp [e]
theorem findNow_str (k : Str) (L : ML Str) (i : Nat) : Instr.findNow .string (sv k) (L.map (entM sv)) i = some (fndM L k i) := by
  induction L generalizing i with
  | nil => rfl
  | cons x L ih =>
    simp only [List.map_cons, Instr.findNow, entM, Instr.sameNow, fndM]
    by_cases e : k = x.1
    · subst e; simp [ba_beq]
    · simp only [ba_beq, e, decide_false, if_false]
      exact ih (i + 1)
theorem sameBits_str (n : Nat) (k : Str) : Instr.sameBits (n + 1) (sv k) (sv k) = true := by simp [Instr.sameBits, ba_beq]
instance {P K} [u : Und P K .string] : MKey P K sv where
  chk := fun e k w => run_checkKey_str u.eq e 9999 _ w
  fnd := fun k L w => by simp [Instr.findKey, run_underlying u.eq, findNow_str]
  same := fun k => sameBits_str 9999 k

section
variable {P : Program} {r : Option Nat} {Q : Exit → Fr → Hp → Prop} {f : Fr} {h h' : Hp} {d : Option Tmp} {ty : TypeId} {p : String} {af : Array Edge} {gd : Option (Nat × Bool)} {S : Hp} {SL : List Blk}
variable {κ : Type} [DecidableEq κ] {ek : κ → Value} {T K V : TypeId} {m : Nat} {L : ML κ} {ck : Nat} {k : κ} {x y z : Operand} {sz by_ : Nat} {zv v : Value}

theorem run_lookup [u : Und P T (.map K V)] [mk : MKey P K ek] [i : Inf P V sz by_ zv] {w : World} (hm : w.heap[m]? = some (mapO ek L ck)) (ok : Bool) :
    (Instr.lookup T (.map (some m)) (ek k) ok).run P w = .ok (if ok then .tuple #[(getM L k).getD zv, .bool (getM L k).isSome] else (getM L k).getD zv) w := by
  have hg : (getObj m).run P w = .ok (mapO ek L ck) w := by simp [getObj, Sem.run, hm]
  have hf := fnd_get L k 0
  simp only [Instr.lookup, Sem.run_bind, run_underlying u.eq, Result.andThen_ok, hg, Sem.run_pure, mk.chk, mk.fnd]
  cases hx : fndM L k 0 with
  | none => rw [hx] at hf; simp at hf; simp [← hf, run_zeroV (k := i)]
  | some q => rw [hx] at hf; obtain ⟨j, u⟩ := q; simp at hf; simp [← hf]
/-- 'v := m[k]' -/
theorem S0.lookup [hh : Has S m (mapO ek L ck)] [u : Und P T (.map K V)] [mk : MKey P K ek] [i : Inf P V sz by_ zv] (hx : ev f x = some (.map (some m))) (hy : ev f y = some (ek k)) : S0 P f S.flatten ⟨d, .lookup T x y false, ty, p, af, gd⟩ ((getM L k).getD zv) := by
  refine ⟨by intro c; simp, by intro c; simp, fun ρ w k' hS => ?_⟩
  simp [execOp, k' _ _ hx, k' _ _ hy, run_lookup (hS _ hh.mem) (u := u) (mk := mk) (i := i)]
/-- 'v, ok := m[k]' -/
theorem S0.lookup2 [hh : Has S m (mapO ek L ck)] [u : Und P T (.map K V)] [mk : MKey P K ek] [i : Inf P V sz by_ zv] (hx : ev f x = some (.map (some m))) (hy : ev f y = some (ek k)) : S0 P f S.flatten ⟨d, .lookup T x y true, ty, p, af, gd⟩ (.tuple ⟨[(getM L k).getD zv, .bool (getM L k).isSome]⟩) := by
  refine ⟨by intro c; simp, by intro c; simp, fun ρ w k' hS => ?_⟩
  simp [execOp, k' _ _ hx, k' _ _ hy, run_lookup (hS _ hh.mem) (u := u) (mk := mk) (i := i)]
theorem run_lookup_nil [u : Und P T (.map K V)] [mk : MKey P K ek] [i : Inf P V sz by_ zv] {w : World} (ok : Bool) :
    (Instr.lookup T (.map none) (ek k) ok).run P w = .ok (if ok then .tuple #[zv, .bool false] else zv) w := by
  have hf : (Instr.findKey K (ek k) []).run P w = .ok none w := by have := mk.fnd k [] w; simpa [fndM] using this
  simp only [Instr.lookup, Sem.run_bind, run_underlying u.eq, Result.andThen_ok, Sem.run_pure, mk.chk, hf, run_zeroV (k := i)]
theorem S0.lookupN (k : κ) [u : Und P T (.map K V)] [mk : MKey P K ek] [i : Inf P V sz by_ zv] (hx : ev f x = some (.map none)) (hy : ev f y = some (ek k)) : S0 P f SL ⟨d, .lookup T x y false, ty, p, af, gd⟩ zv :=
  S0.pure (by intro c; simp) (by intro c; simp) fun ρ w k' => by simp [execOp, k' _ _ hx, k' _ _ hy, run_lookup_nil (u := u) (mk := mk) (i := i)]

theorem run_setObj {w : World} {o o' : Obj} (hm : w.heap[m]? = some o) (ho : ∀ a b c, o ≠ .cells a b c) : (setObj m o').run P w = .ok () { w with heap := w.heap.setIfInBounds m o' } := by
  simp only [setObj, Sem.run, hm]
theorem run_update [u : Und P T (.map K V)] [mk : MKey P K ek] {w : World} (hm : w.heap[m]? = some (mapO ek L ck)) :
    (Instr.mapUpdate T (.map (some m)) (ek k) v).run P w = .ok () { w with heap := w.heap.setIfInBounds m (mapO ek (putM L ck k v) (clkM L ck k)) } := by
  have hg : (getObj m).run P w = .ok (mapO ek L ck) w := by simp [getObj, Sem.run, hm]
  have hf := fnd_get L k 0
  simp only [Instr.mapUpdate, Sem.run_bind, run_underlying u.eq, Result.andThen_ok, hg, mk.chk, mk.fnd]
  cases hx : fndM L k 0 with
  | none =>
    rw [hx] at hf; simp at hf
    simp only [putM, clkM, ← hf]
    rw [run_setObj hm (by intro a b c; simp)]
    simp [mapO, entM]
  | some q =>
    obtain ⟨j, u⟩ := q
    rw [hx] at hf; simp at hf
    have hk := fnd_key (ek := ek) L k 0 j u hx
    have hs := modify_set (ek := ek) L k 0 j v u hx
    simp only [Nat.sub_zero] at hk hs
    have e1 : (((⟨L.map (entM ek)⟩ : Array MapEntry)[j]?).map (·.key)).getD (ek k) = ek k := by
      have : (⟨L.map (entM ek)⟩ : Array MapEntry)[j]? = (L.map (entM ek))[j]? := by simp
      rw [this, hk]; rfl
    simp only [putM, clkM, ← hf, e1, Instr.keyThatStays, mk.same, if_true, Sem.run_bind, Sem.run_pure, Result.andThen_ok]
    rw [run_setObj hm (by intro a b c; simp)]
    have e2 : (⟨L.map (entM ek)⟩ : Array MapEntry).modify j (fun e => { e with key := ek k, val := v }) = ⟨(setM L k v).map (entM ek)⟩ := by
      rw [← hs]
      apply Array.toList_inj.1
      simp
    rw [e2]
    simp
theorem S1.mapUpdate [hh : Has h m (mapO ek L ck)] [u : Und P T (.map K V)] [mk : MKey P K ek] [up : Upd h m (mapO ek L ck) (mapO ek (putM L ck k v) (clkM L ck k)) h'] (hx : ev f x = some (.map (some m))) (hy : ev f y = some (ek k)) (hz : ev f z = some v) :
    S1 P r ⟨d, .mapUpdate T x y z, ty, p, af, gd⟩ f h (is undef h') :=
  S1.ofSkip (by intro c; simp) fun E R ρ w k' st => ⟨_, by simp [execOp, k' _ _ hx, k' _ _ hy, k' _ _ hz, run_update (st.has (k := hh)) (u := u) (mk := mk)], st.upd (k := up)⟩

theorem run_delete [u : Und P T (.map K V)] [mk : MKey P K ek] {w : World} (hm : w.heap[m]? = some (mapO ek L ck)) :
    (Builtin.delete_ #[T, K] ty #[.map (some m), ek k]).run P w = .ok (.tuple #[]) { w with heap := w.heap.setIfInBounds m (mapO ek (delM L k) ck) } := by
  have hg : (getObj m).run P w = .ok (mapO ek L ck) w := by simp [getObj, Sem.run, hm]
  have hf := fnd_get L k 0
  simp only [Builtin.delete_, List.getElem?_toArray, List.getElem?_cons_zero, List.getElem?_cons_succ, Sem.run_bind, run_underlying u.eq, Result.andThen_ok, hg, mk.chk, mk.fnd]
  cases hx : fndM L k 0 with
  | none =>
    rw [hx] at hf; simp at hf
    simp only [del_none L k hf.symm, Sem.run_bind, run_setObj hm (o' := mapO ek L ck) (by intro a b c; simp), Result.andThen_ok, Sem.run_pure]
  | some q =>
    obtain ⟨j, u⟩ := q
    have hs := erase_del (ek := ek) L k 0 j u hx
    have hl := fnd_ge L k 0 j u hx
    simp only [Nat.sub_zero] at hs hl
    have e2 : (⟨L.map (entM ek)⟩ : Array MapEntry).eraseIdxIfInBounds j = ⟨(delM L k).map (entM ek)⟩ := by
      rw [← hs]
      have hj : j < (⟨L.map (entM ek)⟩ : Array MapEntry).size := by simp; exact hl.2
      rw [Array.eraseIdxIfInBounds_eq, dif_pos hj]
      apply Array.toList_inj.1
      simp
    simp only [e2, Sem.run_bind, run_setObj hm (o' := mapO ek (delM L k) ck) (by intro a b c; simp), Result.andThen_ok, Sem.run_pure]
theorem S1.delete [hh : Has h m (mapO ek L ck)] [u : Und P T (.map K V)] [mk : MKey P K ek] [up : Upd h m (mapO ek L ck) (mapO ek (delM L k) ck) h'] (hx : ev f x = some (.map (some m))) (hy : ev f y = some (ek k)) :
    S1 P r ⟨d, .call ⟨.builtin .delete, #[x, y], #[T, K]⟩, ty, p, af, gd⟩ f h (is (.tuple #[]) h') :=
  S1.ofRun (by intro c; simp) fun E R ρ w k' st => ⟨.tuple #[], h', _, by
    have := run_delete (P := P) (ty := ty) (st.has (k := hh)) (u := u) (mk := mk) (k := k)
    simp [execOp, resolve, invoke, builtin, k' _ _ hx, k' _ _ hy, this], ⟨rfl, rfl⟩, st.upd (k := up)⟩
end
end Go.Proofs.YtnoicafjkgbokaaDoor
