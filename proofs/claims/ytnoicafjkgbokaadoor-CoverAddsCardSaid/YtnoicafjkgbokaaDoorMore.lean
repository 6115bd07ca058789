/-
  More rules: structs by value, slices, maps, strings.
-/
import Derived.Test.YtnoicafjkgbokaaDoorRule
namespace Go.Proofs.YtnoicafjkgbokaaDoor
open Go

/-- Where the fields of a struct type lie: offset and size of each. -/
class Stru (P : Program) (T : TypeId) (pl : outParam (List (Nat × Nat))) : Prop where
  ex : ∃ fs, P.underlying T = some (.struct fs) ∧ fs.toList.mapM (fun g => (P.info? g.type).map fun i => (g.offset, i.size)) = some pl

class CellsL (v : Value) (l : outParam (List Value)) : Prop where
  eq : v.cells = ⟨l⟩
instance {l} : CellsL (.agg ⟨l⟩) l := ⟨rfl⟩
instance {l} : CellsL (.agg (List.toArray l)) l := ⟨rfl⟩
instance {k n} : CellsL (.int k n) [.int k n] := ⟨rfl⟩
instance {b} : CellsL (.bool b) [.bool b] := ⟨rfl⟩
instance {s} : CellsL (.string s) [.string s] := ⟨rfl⟩
instance {a} : CellsL (.pointer a) [.pointer a] := ⟨rfl⟩
instance {a n c} : CellsL (.slice a n c) [.slice a n c] := ⟨rfl⟩
instance {m} : CellsL (.map m) [.map m] := ⟨rfl⟩
instance {g a b} : CellsL (.func g a b) [.func g a b] := ⟨rfl⟩
instance : CellsL .nilFunc [.nilFunc] := ⟨rfl⟩
instance {t v} : CellsL (.iface t v) [.iface t v] := ⟨rfl⟩
instance : CellsL .nilIface [.nilIface] := ⟨rfl⟩

theorem take_set_succ {l : List Value} {off : Nat} {v : Value} (h : off < l.length) : (l.set off v).take (off + 1) = l.take off ++ [v] := by
  rw [List.set_eq_take_append_cons_drop, if_pos h, List.take_append]
  have : (l.take off).length = off := by simp; omega
  rw [this, List.take_of_length_le (by omega)]
  simp
theorem drop_set_gt {l : List Value} {off m : Nat} {v : Value} (h : off < m) : (l.set off v).drop m = l.drop m := by
  rw [List.drop_set, if_pos h]
class SetR (l : List Value) (off : Nat) (vs : List Value) (l' : outParam (List Value)) : Prop where
  eq : l' = l.take off ++ vs ++ l.drop (off + vs.length) ∧ off + vs.length ≤ l.length
instance {l off v l'} [k : SetL l off v l'] : SetR l off [v] l' := ⟨by
  obtain ⟨h1, h2⟩ := k.eq
  refine ⟨?_, h2⟩
  rw [← h1, List.set_eq_take_append_cons_drop, if_pos h2]
  simp⟩
instance (priority := low) {l off v u vs l1 l'} [k1 : SetL l off v l1] [k2 : SetR l1 (off + 1) (u :: vs) l'] : SetR l off (v :: u :: vs) l' := ⟨by
  obtain ⟨h1, h2⟩ := k1.eq
  obtain ⟨h3, h4⟩ := k2.eq
  subst h1
  simp only [List.length_cons, List.length_set] at h3 h4 ⊢
  refine ⟨?_, by omega⟩
  rw [h3, take_set_succ h2, drop_set_gt (by omega)]
  simp only [List.append_assoc, List.cons_append, List.nil_append]
  rw [show off + 1 + (vs.length + 1) = off + (vs.length + 1 + 1) from by omega]⟩

class LenIs (l : List Value) (n : Nat) : Prop where
  eq : l.length = n
instance : LenIs [] 0 := ⟨rfl⟩
instance {a l n} [k : LenIs l n] : LenIs (a :: l) (n + 1) := ⟨by simp [k.eq]⟩
class BuildL (pl : List (Nat × Nat)) (ps : List (Nat × Value)) (l : List Value) (l' : outParam (List Value)) : Prop where
  eq : Instr.fill (fun i => pl[i]?) ⟨l⟩ ps = some ⟨l'⟩
instance {pl l} : BuildL pl [] l l := ⟨rfl⟩
class PlaceL (pl : List (Nat × Nat)) (i : Nat) (off sz : outParam Nat) : Prop where
  eq : pl[i]? = some (off, sz)
instance {a b pl} : PlaceL ((a, b) :: pl) 0 a b := ⟨rfl⟩
instance {x pl i a b} [k : PlaceL pl i a b] : PlaceL (x :: pl) (i + 1) a b := ⟨by simpa using k.eq⟩
theorem foldl_sets (off : Nat) : ∀ (vs : List Value) (j : Nat) (l : List Value), off + j + vs.length ≤ l.length →
    (vs.zipIdx j).foldl (fun (cs : Array Value) x => cs.setIfInBounds (off + x.2) x.1) (⟨l⟩ : Array Value) = ⟨l.take (off + j) ++ vs ++ l.drop (off + j + vs.length)⟩
  | [], j, l, h => by simp
  | v :: vs, j, l, h => by
    simp only [List.length_cons] at h
    rw [List.zipIdx_cons, List.foldl_cons]
    have e : (⟨l⟩ : Array Value).setIfInBounds (off + j) v = ⟨l.set (off + j) v⟩ := by simp
    rw [e, foldl_sets off vs (j + 1) (l.set (off + j) v) (by simp; omega)]
    have hlt : off + j < l.length := by omega
    rw [show off + (j + 1) = off + j + 1 from by omega, take_set_succ hlt, drop_set_gt (by omega)]
    simp only [List.append_assoc, List.cons_append, List.nil_append, List.length_cons]
    rw [show off + j + 1 + vs.length = off + j + (vs.length + 1) from by omega]
instance {pl i v vs off sz ps l l1 l'} [k0 : PlaceL pl i off sz] [k1 : CellsL v vs] [kl : LenIs vs sz] [k2 : SetR l off vs l1] [k3 : BuildL pl ps l1 l'] : BuildL pl ((i, v) :: ps) l l' := ⟨by
  have e0 := k0.eq
  rw [← kl.eq] at e0
  simp only [Instr.fill, e0, k1.eq]
  simp only [List.size_toArray, ne_eq, not_true_eq_false, decide_false, Bool.false_or, decide_eq_true_eq]
  rw [if_neg (by have := k2.eq.2; omega)]
  have := k3.eq
  rw [k2.eq.1] at this
  rw [← this]
  congr 1
  rw [← Array.foldl_toList]
  have := foldl_sets off vs 0 l (by have := k2.eq.2; omega)
  simpa using this⟩

section
variable {P : Program} {r : Option Nat} {Q : Exit → Fr → Hp → Prop} {f : Fr} {h h' : Hp} {d : Option Tmp} {ty : TypeId} {p : String} {af : Array Edge} {gd : Option (Nat × Bool)} {S : Hp} {SL : List Blk}

theorem S1.alloc {T sz by_ z l} [i : Inf P T sz by_ z] [kz : CellsL z l] : S1 P r ⟨d, .alloc T, ty, p, af, gd⟩ f h (newp (cel l T) h) :=
  S1.ofRun (by intro c; simp) fun E R ρ w _ st => ⟨_, _, _, by simp [execOp, Instr.alloc, run_zeroV (k := i), newVar, newRow, kz.eq], ⟨_, rfl, rfl⟩, st.new _⟩
/-! structs as values -/
theorem S0.field {x T i off U vs v} [k : Fld P T i off U] [s : Sca P U] (hx : ev f x = some (.agg ⟨vs⟩)) (hv : vs[off]? = some v) : S0 P f SL ⟨d, .field T x i, ty, p, af, gd⟩ v :=
  S0.pure (by intro c; simp) (by intro c; simp) fun ρ w k' => by
    obtain ⟨fs, g, hu, hg, rfl, rfl⟩ := k.ex
    obtain ⟨D, hD, hA⟩ := s.ex
    simp [execOp, k' _ _ hx, Instr.field, run_underlying hu, hg, asAgg, part, run_isAggD hD, hA, hv]
theorem mapM_places (l : List Field) (pl : List (Nat × Nat)) (h : l.mapM (fun g => (P.info? g.type).map fun i => (g.offset, i.size)) = some pl) (w : World) :
    (l.mapM fun g => (do pure (g.offset, ← sizeOf g.type) : Sem (Nat × Nat))).run P w = .ok pl w := by
  induction l generalizing pl with
  | nil => simp at h; subst h; simp
  | cons g l ih =>
    rw [List.mapM_cons] at h
    cases hi : P.info? g.type with
    | none => simp [hi] at h
    | some i =>
      cases hl : l.mapM (fun g => (P.info? g.type).map fun i => (g.offset, i.size)) with
      | none => simp [hi, hl] at h
      | some pl' =>
        simp [hi, hl] at h
        subst h
        have hsz : (sizeOf g.type).run P w = .ok i.size w := by simp [sizeOf, run_ti hi]
        rw [List.mapM_cons]
        simp only [Sem.run_bind, hsz, Result.andThen_ok, Sem.run_pure, ih pl' hl]
theorem evps {ρ : Operand → Value} (k : ∀ x u, ev f x = some u → ρ x = u) {ps : Array (Nat × Operand)} {vs : List Value} (hv : evs f (ps.toList.map (·.2)) = some vs) : (ps.map fun (i, x) => (i, ρ x)).toList = (ps.toList.map (·.1)).zip vs := by
  have := evs_map k hv
  rw [← this]
  simp only [Array.toList_map, List.map_map]
  rw [List.zip_map_left, List.zip_map_right]
  generalize ps.toList = l
  induction l with
  | nil => rfl
  | cons a l ih => simpa using ih
theorem S0.build {T ps vs sz by_ z zl pl l} [kz : Inf P T sz by_ z] [ks : Stru P T pl] (hv : evs f (ps.toList.map (·.2)) = some vs) {qs : List (Nat × Value)} (hq : (ps.toList.map (·.1)).zip vs = qs) [kzl : CellsL z zl] [kb : BuildL pl qs zl l] : S0 P f SL ⟨d, .build T ps, ty, p, af, gd⟩ (.agg ⟨l⟩) :=
  S0.pure (by intro c; simp) (by intro c; simp) fun ρ w k' => by
    obtain ⟨fs, hu, hm⟩ := ks.ex
    have hp := mapM_places (P := P) _ _ hm w
    have he := evps k' hv
    rw [hq] at he
    have hb := kb.eq
    simp only [execOp, Instr.build, Sem.run_bind, run_zeroV (k := kz), Result.andThen_ok, run_underlying hu, Array.mapM_eq_mapM_toList, Sem.run_map, hp, he, kzl.eq]
    have e : (fun x : Nat => (pl.toArray)[x]?) = fun i => pl[i]? := by funext i; simp
    rw [e, hb]
    simp

/-! len -/
theorem S0.lenSl {x a n c T E} [k : Und P T (.slice E)] (hx : ev f x = some (.slice a n c)) : S0 P f SL ⟨d, .call ⟨.builtin .len, #[x], #[T]⟩, ty, p, af, gd⟩ (.int .i64 n) :=
  S0.pure (by intro c; simp) (by intro c hc; simp at hc; exact ⟨_, by rw [← hc]⟩) fun ρ w k' => by
    simp [execOp, resolve, invoke, builtin, Builtin.len_, k' _ _ hx, run_underlying k.eq, goInt]
theorem S0.lenSt {x l T} [k : Und P T .string] (hx : ev f x = some (.string ⟨⟨l⟩⟩)) : S0 P f SL ⟨d, .call ⟨.builtin .len, #[x], #[T]⟩, ty, p, af, gd⟩ (.int .i64 l.length) :=
  S0.pure (by intro c; simp) (by intro c hc; simp at hc; exact ⟨_, by rw [← hc]⟩) fun ρ w k' => by
    simp [execOp, resolve, invoke, builtin, Builtin.len_, k' _ _ hx, run_underlying k.eq, goInt]
    rfl
theorem S0.lenM {x m es ck T K V} [k : Und P T (.map K V)] [hh : Has S m (.map es ck)] (hx : ev f x = some (.map (some m))) : S0 P f S.flatten ⟨d, .call ⟨.builtin .len, #[x], #[T]⟩, ty, p, af, gd⟩ (.int .i64 es.size) := by
  refine ⟨by intro c; simp, by intro c hc; simp at hc; exact ⟨_, by rw [← hc]⟩, fun ρ w k' hS => ?_⟩
  have hm := hS _ hh.mem
  simp [execOp, resolve, invoke, builtin, Builtin.len_, k' _ _ hx, run_underlying k.eq, goInt, getObj, Sem.run, hm]

/-! new blocks of other kinds -/
abbrev newv (g : Nat → Value) (o : Obj) (h : Hp) : Value → Hp → Prop := fun v' h' => ∃ b, v' = g b ∧ h' = [(b, o)] :: h
theorem S1.makeMap {T} : S1 P r ⟨d, .makeMap T none, ty, p, af, gd⟩ f h (newv (fun b => .map (some b)) (.map #[] 0) h) :=
  S1.ofRun (by intro c; simp) fun E R ρ w _ st => ⟨.map (some w.heap.size), [(w.heap.size, .map #[] 0)] :: h, _, by simp [execOp, Instr.makeMap], ⟨_, rfl, rfl⟩, st.new _⟩
end
end Go.Proofs.YtnoicafjkgbokaaDoor
