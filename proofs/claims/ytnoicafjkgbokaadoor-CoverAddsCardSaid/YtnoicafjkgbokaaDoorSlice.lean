/-
  Slices: values that own a row; index, cut, literal, append.
-/
import Derived.Test.YtnoicafjkgbokaaDoorMap
namespace Go.Proofs.YtnoicafjkgbokaaDoor
open Go

/-- The value v is a slice of elements of k cells each, of type E; its cells are l; its row is the chunk c (none: nil). -/
inductive IsSl (E : TypeId) (k : Nat) : Value → List Value → List Blk → Prop
  | nil : IsSl E k (.slice none 0 0) [] []
  | row {b n c : Nat} {l sp : List Value} : l.length = n * k → (l ++ sp).length = c * k → n ≤ c → IsSl E k (.slice (some ⟨b, 0, none⟩) n c) l [(b, .cells ⟨l ++ sp⟩ E (0, 0))]

class CatL (n k : Nat) (qs : List (Nat × Value)) (l : outParam (List Value)) : Prop where
  eq : qs.map (·.1) = List.range' n qs.length ∧ (∀ q ∈ qs, q.2.cells.size = k) ∧ l = (qs.map fun q => q.2.cells.toList).flatten
instance {n k : Nat} : CatL n k [] [] := ⟨rfl, by simp, rfl⟩
class AppL (a b : List Value) (c : outParam (List Value)) : Prop where
  eq : a ++ b = c
instance {b} : AppL [] b b := ⟨rfl⟩
instance {x a b c} [k : AppL a b c] : AppL (x :: a) b (x :: c) := ⟨by rw [List.cons_append, k.eq]⟩
instance {n k v vs qs l o} [c : CellsL v vs] [hl : LenIs vs k] [q : CatL (n + 1) k qs l] [ha : AppL vs l o] : CatL n k ((n, v) :: qs) o := ⟨by
  obtain ⟨h1, h2, h3⟩ := q.eq
  have e := hl.eq
  refine ⟨by simp [h1, List.range'_succ], ?_, by rw [← ha.eq]; simp [c.eq, h3]⟩
  intro x hx
  rcases List.mem_cons.1 hx with rfl | hx
  · simp [c.eq, e]
  · exact h2 x hx⟩

theorem fill_cat (k : Nat) : ∀ (qs : List (Nat × Value)) (n : Nat) (pre post : List Value), qs.map (·.1) = List.range' n qs.length → (∀ q ∈ qs, q.2.cells.size = k) → pre.length = n * k → post.length = qs.length * k →
    Instr.fill (fun i => some (i * k, k)) ⟨pre ++ post⟩ qs = some ⟨pre ++ (qs.map fun q => q.2.cells.toList).flatten⟩
  | [], n, pre, post, h1, h2, h3, h4 => by
    have : post = [] := List.length_eq_zero_iff.1 (by simpa using h4)
    simp [Instr.fill, this]
  | (i, v) :: qs, n, pre, post, h1, h2, h3, h4 => by
    simp only [List.map_cons, List.length_cons, List.range'_succ, List.cons.injEq] at h1
    obtain ⟨rfl, h1⟩ := h1
    have hk : v.cells.size = k := h2 (i, v) (by simp)
    simp only [List.length_cons] at h4
    have h4' : post.length = qs.length * k + k := by rw [h4, Nat.succ_mul]
    simp only [Instr.fill, hk]
    rw [if_neg (by simp; omega)]
    have hf := foldl_sets (i * k) v.cells.toList 0 (pre ++ post) (by simp [hk]; omega)
    have e1 : v.cells.zipIdx.foldl (fun cs x => cs.setIfInBounds (i * k + x.2) x.1) (⟨pre ++ post⟩ : Array Value) = ⟨(pre ++ v.cells.toList) ++ post.drop k⟩ := by
      rw [← Array.foldl_toList]
      simp only [Array.toList_zipIdx]
      rw [hf]
      simp only [Nat.add_zero, Array.length_toList, hk, Array.mk.injEq]
      rw [List.take_append_of_le_length (by omega), List.take_of_length_le (by omega), List.drop_append, List.drop_eq_nil_of_le (by omega)]
      simp [h3]
    have := fill_cat k qs (i + 1) (pre ++ v.cells.toList) (post.drop k) h1 (fun q hq => h2 q (List.mem_cons_of_mem _ hq)) (by simp [hk, h3, Nat.succ_mul]) (by simp; omega)
    rw [e1, this]
    simp

section
variable {P : Program} {r : Option Nat} {Q : Exit → Fr → Hp → Prop} {f : Fr} {h h' : Hp} {d : Option Tmp} {ty : TypeId} {p : String} {af : Array Edge} {gd : Option (Nat × Bool)} {S : Hp} {SL : List Blk}
variable {T E E2 : TypeId} {x y z : Operand} {k by_ : Nat} {zv v u : Value}

theorem S0.indexAddr {b o n c : Nat} {i : Int} [kk : Und P T (.slice E)] [ki : Inf P E k by_ zv] (hx : ev f x = some (.slice (some ⟨b, o, none⟩) n c)) (hy : ev f y = some (.int .i64 i)) (hi : 0 ≤ i ∧ i < n) :
    S0 P f SL ⟨d, .indexAddr T x y, ty, p, af, gd⟩ (.pointer (some ⟨b, o + i.toNat * k, none⟩)) :=
  S0.pure (by intro c; simp) (by intro c; simp) fun ρ w k' => by
    simp only [execOp, k' _ _ hx, k' _ _ hy, Instr.indexAt, asIntOf, Sem.run_bind, Sem.run_pure, Result.andThen_ok, run_underlying kk.eq, Bool.and_false]
    rw [if_pos hi]
    simp only [Sem.run_bind, run_sizeOf (k := ki), Result.andThen_ok, Sem.run_pure, Addr.add]
    split <;> simp_all
/-- a cut 'x[lo:hi]' of a slice; 'none' for an end that is not written -/
theorem S0.slice {b o n c : Nat} {lo hi : Option Operand} {i j : Nat} [kk : Und P T (.slice E)] [ki : Inf P E k by_ zv] (hx : ev f x = some (.slice (some ⟨b, o, none⟩) n c))
    (hlo : match lo with | none => i = 0 | some y => ev f y = some (.int .i64 i)) (hhi : match hi with | none => j = n | some y => ev f y = some (.int .i64 j)) (hij : i ≤ j ∧ j ≤ c) :
    S0 P f SL ⟨d, .slice T x lo hi none, ty, p, af, gd⟩ (.slice (some ⟨b, if c = i then o else o + i * k, none⟩) (j - i) (c - i)) :=
  S0.pure (by intro c; simp) (by intro c; simp) fun ρ w k' => by
    obtain ⟨h1, h2⟩ := hij
    have e1 : ∀ (bd : BoundsCode) (m : Nat), j ≤ m → (Instr.sliceBound (.int .i64 j) m bd).run P w = .ok j w := fun bd m hm => by
      simp only [Instr.sliceBound, asIntOf, Sem.run_bind, Sem.run_pure, Result.andThen_ok]
      rw [if_pos ⟨by omega, by omega⟩]; simp
    have e2 : ∀ (bd : BoundsCode) (m : Nat), i ≤ m → (Instr.sliceBound (.int .i64 i) m bd).run P w = .ok i w := fun bd m hm => by
      simp only [Instr.sliceBound, asIntOf, Sem.run_bind, Sem.run_pure, Result.andThen_ok]
      rw [if_pos ⟨by omega, by omega⟩]; simp
    have eb : (Instr.sliceBounds true n c (lo.map ρ) (hi.map ρ) none).run P w = .ok (i, j, c) w := by
      cases lo with
      | none => cases hi with
        | none => simp only at hlo hhi; subst hlo hhi; simp [Instr.sliceBounds]
        | some yh => simp only at hlo hhi; subst hlo; simp [Instr.sliceBounds, k' _ _ hhi, e1 _ c h2]
      | some yl => cases hi with
        | none => simp only at hlo hhi; subst hhi; simp [Instr.sliceBounds, k' _ _ hlo, e2 _ j h1]
        | some yh => simp only at hlo hhi; simp [Instr.sliceBounds, k' _ _ hlo, k' _ _ hhi, e1 _ c h2, e2 _ j h1]
    simp only [execOp, k' _ _ hx, Instr.sliceAt, Sem.run_bind, run_underlying kk.eq, Result.andThen_ok, Instr.slice, Option.map_none, eb, run_sizeOf (k := ki), Sem.run_pure]
    split
    · rfl
    · simp only [Option.map_some, Addr.add]
      split <;> simp_all
theorem S0.sliceN {lo hi : Option Operand} [kk : Und P T (.slice E)] [ki : Inf P E k by_ zv] (hx : ev f x = some (.slice none 0 0))
    (hlo : match lo with | none => True | some y => ev f y = some (.int .i64 0)) (hhi : match hi with | none => True | some y => ev f y = some (.int .i64 0)) :
    S0 P f SL ⟨d, .slice T x lo hi none, ty, p, af, gd⟩ (.slice none 0 0) :=
  S0.pure (by intro c; simp) (by intro c; simp) fun ρ w k' => by
    have e1 : ∀ (bd : BoundsCode), (Instr.sliceBound (.int .i64 0) 0 bd).run P w = .ok 0 w := fun bd => by simp [Instr.sliceBound, asIntOf]
    have eb : (Instr.sliceBounds true 0 0 (lo.map ρ) (hi.map ρ) none).run P w = .ok (0, 0, 0) w := by
      cases lo with
      | none => cases hi with
        | none => simp [Instr.sliceBounds]
        | some yh => simp only at hhi; simp [Instr.sliceBounds, k' _ _ hhi, e1]
      | some yl => cases hi with
        | none => simp only at hlo; simp [Instr.sliceBounds, k' _ _ hlo, e1]
        | some yh => simp only at hlo hhi; simp [Instr.sliceBounds, k' _ _ hlo, k' _ _ hhi, e1]
    simp only [execOp, k' _ _ hx, Instr.sliceAt, Sem.run_bind, run_underlying kk.eq, Result.andThen_ok, Instr.slice, Option.map_none, eb, run_sizeOf (k := ki), Sem.run_pure]
    simp

/-- a slice literal, all its elements written -/
theorem S1.buildSlice {n : Nat} {ps : Array (Nat × Operand)} {vs l : List Value} {qs : List (Nat × Value)} [kk : Und P T (.slice E)] [ki : Inf P E k by_ zv] (hv : evs f (ps.toList.map (·.2)) = some vs) (hq : (ps.toList.map (·.1)).zip vs = qs) [kc : CatL 0 k qs l] (hn : qs.length = n) (hle : n * k ≤ 16777216 := by decide) :
    S1 P r ⟨d, .buildSlice T n ps, ty, p, af, gd⟩ f h (fun v' h' => ∃ b, v' = .slice (some ⟨b, 0, none⟩) n n ∧ h' = [(b, cel l E)] :: h) :=
  S1.ofRun (by intro c; simp) fun E' R ρ w k' st => by
    obtain ⟨h1, h2, h3⟩ := kc.eq
    have he := evps k' hv
    rw [hq] at he
    have hlen : ((Array.range (n * k)).map (zv.cells[· % zv.cells.size]!)).size = n * k := by simp
    have hfill : Instr.fill (fun i => some (i * k, k)) (⟨[] ++ ((Array.range (n * k)).map (zv.cells[· % zv.cells.size]!)).toList⟩) qs = some ⟨[] ++ (qs.map fun q => q.2.cells.toList).flatten⟩ :=
      fill_cat k qs 0 [] _ h1 h2 (by simp) (by simp [hn])
    simp only [List.nil_append, ← h3] at hfill
    refine ⟨_, _, _, ?_, ⟨w.heap.size, rfl, rfl⟩, st.new (cel l E)⟩
    have e3 : (⟨((Array.range (n * k)).map (zv.cells[· % zv.cells.size]!)).toList⟩ : Array Value) = (Array.range (n * k)).map (zv.cells[· % zv.cells.size]!) := rfl
    rw [e3] at hfill
    simp only [execOp, Instr.buildSlice, Sem.run_bind, run_underlying kk.eq, Result.andThen_ok, run_sizeOf (k := ki)]
    rw [if_neg (by omega)]
    by_cases h0 : n * k = 0
    · have e4 : (Array.range 0).map ((#[] : Array Value)[· % (#[] : Array Value).size]!) = (Array.range (n * k)).map (zv.cells[· % zv.cells.size]!) := by rw [h0]; simp
      simp only [if_pos h0, Sem.run_bind, Sem.run_pure, Result.andThen_ok, he]
      rw [h0] at e4 hfill ⊢
      rw [e4, hfill]
      simp [newRow]
    · simp only [if_neg h0, Sem.run_bind, Sem.run_pure, Result.andThen_ok, run_zeroV (k := ki), he, hfill]
      simp [newRow]

/-! append -/
theorem run_firstCells {w : World} {b o n c : Nat} {l : List Value} {U fz} (hb : w.heap[b]? = some (.cells ⟨l⟩ U fz)) (hle : o + n * k ≤ l.length) :
    (Builtin.firstCells k n (.slice (some ⟨b, o, none⟩) n c)).run P w = .ok ⟨(l.drop o).take (n * k)⟩ w := by
  simp only [Builtin.firstCells, loadCells]
  have := run_loadCellsFrom (P := P) hb (n * k) 0 #[] (by omega)
  simpa using this
theorem run_storeCells {b : Nat} {U : TypeId} : ∀ (vs : List Value) (w : World) (o i : Nat) (l : List Value), w.heap[b]? = some (.cells ⟨l⟩ U (0, 0)) → o + i + vs.length ≤ l.length → (∀ v ∈ vs, cellV v = true) →
    (storeCells ⟨b, o, none⟩ vs i).run P w = .ok () { w with heap := w.heap.setIfInBounds b (.cells ⟨l.take (o + i) ++ vs ++ l.drop (o + i + vs.length)⟩ U (0, 0)) }
  | [], w, o, i, l, hb, _, _ => by
    have : w.heap.setIfInBounds b (.cells ⟨l⟩ U (0, 0)) = w.heap := by
      obtain ⟨hlt, hg⟩ := Array.getElem?_eq_some_iff.1 hb
      apply Array.ext
      · simp
      · intro j h1 h2
        rw [Array.getElem_setIfInBounds (by simpa using h1)]
        split
        · rename_i e; subst e; rw [hg]
        · rfl
    simp [storeCells, this]
  | v :: vs, w, o, i, l, hb, hle, hv => by
    simp only [List.length_cons] at hle
    have hlt : o + i < l.length := by omega
    have ea : (⟨b, o, none⟩ : Addr).add i = ⟨b, o + i, none⟩ := by unfold Addr.add; split <;> simp_all
    have h1 := run_store1 (P := P) hb hlt (hv v (by simp))
    have hb' : ({ w with heap := w.heap.setIfInBounds b (.cells ⟨l.set (o + i) v⟩ U (0, 0)) } : World).heap[b]? = some (.cells ⟨l.set (o + i) v⟩ U (0, 0)) := by
      have := (Array.getElem?_eq_some_iff.1 hb).1
      simp [this]
    simp only [storeCells, Sem.run_bind, ea, h1, Result.andThen_ok]
    rw [run_storeCells vs _ o (i + 1) _ hb' (by simp; omega) (fun u hu => hv u (List.mem_cons_of_mem _ hu))]
    rw [show o + (i + 1) = o + i + 1 from by omega, take_set_succ hlt, drop_set_gt (by omega)]
    simp only [List.append_assoc, List.cons_append, List.nil_append, List.length_cons]
    rw [show o + i + 1 + vs.length = o + i + (vs.length + 1) from by omega]
    simp

theorem run_lenOf {m cp : Nat} {a : Option Addr} (w : World) : (Builtin.lenOf (.slice a m cp)).run P w = .ok m w := rfl
theorem run_infoE [ki : Inf P E k by_ zv] (w : World) {α : Type} (g : TypeInfo → Sem α) (g' : Nat → Sem α) (hg : ∀ i : TypeInfo, g i = g' i.bytes) : (typeInfo E >>= g).run P w = (g' by_).run P w := by
  have := ki.eq
  cases hi : P.info? E with
  | none => rw [hi] at this; cases this
  | some i =>
    rw [hi] at this
    simp only [Option.map_some, Option.some.injEq, Prod.mk.injEq] at this
    simp only [Sem.run_bind, run_ti hi, Result.andThen_ok, hg, this.2.1]

/-- within the capacity -/
theorem run_append_in {T2 : TypeId} {w : World} {base : Option Addr} {n c m : Nat} {ws : List Value} [kk : Und P T (.slice E)] [k2 : Und P T2 (.slice E2)] [ki : Inf P E k by_ zv] (hlen : ∃ a cp, u = .slice a m cp) (hf : (Builtin.firstCells k m u).run P w = .ok ⟨ws⟩ w) (hle : n + m ≤ c) {w' : World}
    (hst : (match base with | some a => storeCells (a.add (n * k)) ws | none => pure () : Sem Unit).run P w = .ok () w') :
    (Builtin.append_ #[T, T2] ty #[.slice base n c, u]).run P w = .ok (.slice base (n + m) c) w' := by
  obtain ⟨a, cp, rfl⟩ := hlen
  simp only [Builtin.append_, List.getElem?_toArray, List.getElem?_cons_zero, List.getElem?_cons_succ, Sem.run_bind, run_underlying kk.eq, Result.andThen_ok, run_sizeOf (k := ki), run_underlying k2.eq, Sem.run_pure, Bool.false_eq_true, if_false, run_lenOf, if_pos hle, Bool.not_false, if_true, hf]
  cases base with
  | none => simp only at hst ⊢; simp at hst; subst hst; simp
  | some b => simp only at hst ⊢; simp [hst]
/-- a new row -/
theorem run_append_out {T2 : TypeId} {w : World} {base : Option Addr} {n c m : Nat} {ls ws : List Value} [kk : Und P T (.slice E)] [k2 : Und P T2 (.slice E2)] [ki : Inf P E k by_ zv] (hlen : ∃ a cp, u = .slice a m cp) (hf : ∀ w0, w0.heap = w.heap → (Builtin.firstCells k m u).run P w0 = .ok ⟨ws⟩ w0) (hs : ∀ w0, w0.heap = w.heap → (Builtin.firstCells k n (.slice base n c)).run P w0 = .ok ⟨ls⟩ w0) (hle : c < n + m)
    (hroom : (n + m) * by_ ≤ 140737488355328 ∧ n + m < 4611686018427387904) :
    ∃ nc, n + m ≤ nc ∧ (Builtin.append_ #[T, T2] ty #[.slice base n c, u]).run P w = .ok (.slice (some ⟨w.heap.size, 0, none⟩) (n + m) nc) { w with drawn := w.drawn + 1, heap := w.heap.push (.cells ⟨ls ++ ws ++ (Builtin.zeroCells zv.cells (nc - (n + m))).toList⟩ E (0, 0)) } := by
  obtain ⟨a, cp, rfl⟩ := hlen
  refine ⟨n + m + w.tape w.drawn (.appendCap (n + m) c E) % (2 ^ 63 - (n + m)), by omega, ?_⟩
  have hch : ∀ (α : Type) (g : Nat → Sem α), (choose (.appendCap (n + m) c E) >>= g).run P w = (g (n + m + w.tape w.drawn (.appendCap (n + m) c E) % (2 ^ 63 - (n + m)))).run P { w with drawn := w.drawn + 1 } := fun α g => by
    simp only [Sem.run_bind, choose, Sem.run, Question.forced, Bool.false_eq_true, if_false, Question.cut, Result.andThen_ok]
  have hfit : ¬ (Builtin.nextslicecap (n + m) c * by_ > 2 ^ 48) := by
    have := growslice_fits (need := n + m) (old := c) (bytes := by_) hle hroom.1
    omega
  simp only [Builtin.append_, List.getElem?_toArray, List.getElem?_cons_zero, List.getElem?_cons_succ, Sem.run_bind, run_underlying kk.eq, Result.andThen_ok, run_sizeOf (k := ki), run_underlying k2.eq, Sem.run_pure, Bool.false_eq_true, if_false, run_lenOf, if_neg (Nat.not_le.2 hle), Bool.not_false, if_true, false_or]
  have hi64 : IntKind.i64.max = 9223372036854775807 := by decide
  rw [hi64]
  have := ki.eq
  cases hi : P.info? E with
  | none => rw [hi] at this; cases this
  | some i =>
    rw [hi] at this
    simp only [Option.map_some, Option.some.injEq, Prod.mk.injEq] at this
    obtain ⟨hi1, hi2, hi3⟩ := this
    simp only [run_ti hi, Result.andThen_ok, hi2]
    rw [if_neg (by omega)]
    simp only [Sem.run_bind, run_ti hi, Result.andThen_ok, hi2]
    rw [if_neg hfit]
    rw [hch]
    simp only [askRoom]
    generalize hnc : n + m + w.tape w.drawn (.appendCap (n + m) c E) % (2 ^ 63 - (n + m)) = nc
    have hroomrun : ∀ (q : Bool) (w0 : World), ((if nc * by_ > roomBytes then mark .noRoom else pure () : Sem Unit)).run P w0 = .ok () w0 := fun _ w0 => by split <;> rfl
    have e1 := hs { w with drawn := w.drawn + 1 } rfl
    have e2 := hf { w with drawn := w.drawn + 1 } rfl
    simp only [Sem.run_bind, run_ti hi, Result.andThen_ok, hi2, hroomrun true, e1, e2, run_zeroV (k := ki), newRow, newObj, Sem.run, Sem.run_pure]
    have e3 : ∀ z : Array Value, (⟨ls⟩ : Array Value) ++ ⟨ws⟩ ++ z = ⟨ls ++ ws ++ z.toList⟩ := fun z => by apply Array.toList_inj.1; simp
    rw [e3]

/-- 'append(x, y...)': x owns its row c; y's cells ws are m elements. -/
theorem S1.append {T2 : TypeId} {c : List Blk} {hr : Hp} {l ws : List Value} {m : Nat} [kk : Und P T (.slice E)] [k2 : Und P T2 (.slice E2)] [ki : Inf P E (k + 1) by_ zv]
    (hx : ev f x = some v) (hs : IsSl E (k + 1) v l c) (hy : ev f y = some u)
    (hm : (∃ cp, u = .slice none m cp ∧ m = 0 ∧ ws = []) ∨ ∃ b' o' cp l' U fz, u = .slice (some ⟨b', o', none⟩) m cp ∧ (b', Obj.cells ⟨l'⟩ U fz) ∈ h.flatten ∧ o' + m * (k + 1) ≤ l'.length ∧ (l'.drop o').take (m * (k + 1)) = ws)
    (hp : h.flatten.Perm (c ++ hr.flatten)) (hcv : ∀ v ∈ ws, cellV v = true) (hz : zv.cells.size = k + 1) (hroom : (l.length + ws.length) * by_ ≤ 140737488355328 ∧ l.length + ws.length < 4611686018427387904) :
    S1 P r ⟨d, .call ⟨.builtin .append, #[x, y], #[T, T2]⟩, ty, p, af, gd⟩ f h (fun v' h' => ∃ c', IsSl E (k + 1) v' (l ++ ws) c' ∧ (c' = [] → c = [] ∧ ws = []) ∧ h' = c' :: hr) :=
  S1.ofRun (by intro c; simp) fun E' R ρ w k' st => by
    have hlen : ∃ a cp, u = .slice a m cp := by
      rcases hm with ⟨cp, rfl, _⟩ | ⟨b', o', cp, l', U, fz, rfl, _⟩ <;> exact ⟨_, _, rfl⟩
    have hf : ∀ w0 : World, w0.heap = w.heap → (Builtin.firstCells (k + 1) m u).run P w0 = .ok ⟨ws⟩ w0 := fun w0 hw0 => by
      rcases hm with ⟨cp, rfl, rfl, rfl⟩ | ⟨b', o', cp, l', U, fz, rfl, hb, hle, rfl⟩
      · rfl
      · exact run_firstCells (by rw [hw0]; exact st.cell _ (List.mem_append.2 (.inl hb))) hle
    have hwl : ws.length = m * (k + 1) := by
      rcases hm with ⟨cp, rfl, rfl, rfl⟩ | ⟨b', o', cp, l', U, fz, rfl, hb, hle, rfl⟩
      · simp
      · simp; omega
    have st' : Sat E' (((c :: hr : Hp)).flatten ++ R) w := st.perm (hp.append_right R)
    have hexec : ∀ v, ev f x = some v → execOp ρ ⟨d, .call ⟨.builtin .append, #[x, y], #[T, T2]⟩, ty, p, af, gd⟩ = (do pure (.value (← Builtin.append_ #[T, T2] ty #[v, u]))) := fun v hv => by
      simp only [execOp, resolve, invoke, builtin]
      simp [k' _ _ hv, k' _ _ hy]
    have hroom' : ∀ n, n ≤ l.length → (n + m) * by_ ≤ 140737488355328 ∧ n + m < 4611686018427387904 := fun n hn => by
      have h2 : m ≤ ws.length := by rw [hwl]; exact Nat.le_mul_of_pos_right m (Nat.succ_pos k)
      exact ⟨Nat.le_trans (Nat.mul_le_mul_right _ (by omega)) hroom.1, by omega⟩
    cases hs with
    | nil =>
      by_cases h0 : m = 0
      · subst h0
        obtain rfl : ws = [] := List.length_eq_zero_iff.1 (by simpa using hwl)
        refine ⟨_, _, w, ?_, ⟨[], IsSl.nil, fun _ => ⟨rfl, rfl⟩, rfl⟩, st'⟩
        rw [hexec _ hx]
        have := run_append_in (P := P) (ty := ty) (T := T) (T2 := T2) (E := E) (E2 := E2) (k := k + 1) (by_ := by_) (zv := zv) (w := w) (base := none) (n := 0) (c := 0) (ws := []) hlen (hf w rfl) (by omega) (w' := w) rfl
        simp [this]
      · obtain ⟨nc, hnc, hrun⟩ := run_append_out (P := P) (ty := ty) (T := T) (T2 := T2) (E := E) (E2 := E2) (k := k + 1) (by_ := by_) (zv := zv) (w := w) (base := none) (n := 0) (c := 0) (ls := []) hlen hf (fun _ _ => rfl) (by omega) (hroom' 0 (Nat.zero_le _))
        have st2 := Sat.draw st'
        refine ⟨.slice (some ⟨w.heap.size, 0, none⟩) (0 + m) nc, _, { w with drawn := w.drawn + 1, heap := w.heap.push (.cells ⟨ws ++ (Builtin.zeroCells zv.cells (nc - (0 + m))).toList⟩ E (0, 0)) }, ?_, ⟨[(w.heap.size, .cells ⟨ws ++ (Builtin.zeroCells zv.cells (nc - (0 + m))).toList⟩ E (0, 0))], ?_, fun e => (by cases e), rfl⟩, (Sat.new (h := hr) (w := { w with drawn := w.drawn + 1 }) (st2.perm (by simp)) _)⟩
        · rw [hexec _ hx]
          simp only [Sem.run_bind, hrun, Result.andThen_ok, Sem.run_pure, List.nil_append]
        · simp only [List.nil_append]
          exact IsSl.row (by rw [hwl]; simp) (by simp [Builtin.zeroCells, hwl, hz]; rw [← Nat.add_mul]; congr 1; omega) (by omega)
    | @row b n cp l sp hl1 hl2 hn =>
      have hb : w.heap[b]? = some (.cells ⟨l ++ sp⟩ E (0, 0)) := st'.cell (b, _) (by simp)
      have hnl : n ≤ l.length := by rw [hl1]; exact Nat.le_mul_of_pos_right n (Nat.succ_pos k)
      by_cases h0 : n + m ≤ cp
      · have hsp : ws.length ≤ sp.length := by
          have h1 : (l ++ sp).length = cp * (k + 1) := hl2
          have h2 : (n + m) * (k + 1) ≤ cp * (k + 1) := Nat.mul_le_mul_right _ h0
          rw [Nat.add_mul, ← hl1, ← hwl] at h2
          rw [List.length_append] at h1
          omega
        have ea : (⟨b, 0, none⟩ : Addr).add (n * (k + 1)) = ⟨b, n * (k + 1), none⟩ := by unfold Addr.add; split <;> simp_all
        have hst := run_storeCells (P := P) (U := E) ws w (n * (k + 1)) 0 (l ++ sp) hb (by rw [← hl1]; simp; omega) hcv
        have hcells : (l ++ sp).take (n * (k + 1) + 0) ++ ws ++ (l ++ sp).drop (n * (k + 1) + 0 + ws.length) = (l ++ ws) ++ sp.drop ws.length := by
          rw [Nat.add_zero, ← hl1, List.take_left, List.drop_append, List.drop_eq_nil_of_le (by omega)]
          simp
        rw [hcells] at hst
        have hrun := run_append_in (P := P) (ty := ty) (T := T) (T2 := T2) (E := E) (E2 := E2) (k := k + 1) (by_ := by_) (zv := zv) (w := w) (base := some ⟨b, 0, none⟩) (n := n) (c := cp) (ws := ws) hlen (hf w rfl) h0 (w' := _) (by simp only [ea]; exact hst)
        refine ⟨_, _, _, ?_, ⟨[(b, .cells ⟨(l ++ ws) ++ sp.drop ws.length⟩ E (0, 0))], IsSl.row (by simp [hl1, hwl, Nat.add_mul]) (by have := hl2; simp at this ⊢; omega) h0, fun e => (by cases e), rfl⟩,
          Sat.upd (h := [(b, .cells ⟨l ++ sp⟩ E (0, 0))] :: hr) (b := b) (o := .cells ⟨l ++ sp⟩ E (0, 0)) st'⟩
        rw [hexec _ hx]
        simp only [Sem.run_bind, hrun, Result.andThen_ok, Sem.run_pure]
      · obtain ⟨nc, hnc, hrun⟩ := run_append_out (P := P) (ty := ty) (T := T) (T2 := T2) (E := E) (E2 := E2) (k := k + 1) (by_ := by_) (zv := zv) (w := w) (base := some ⟨b, 0, none⟩) (n := n) (c := cp) (ls := l) hlen hf
          (fun w0 hw0 => by
            have := run_firstCells (P := P) (w := w0) (k := k + 1) (n := n) (c := cp) (o := 0) (by rw [hw0]; exact hb) (by rw [← hl1]; simp)
            rw [this, ← hl1]; simp) (by omega) (hroom' n hnl)
        have st2 := Sat.draw st'
        refine ⟨.slice (some ⟨w.heap.size, 0, none⟩) (n + m) nc, _, { w with drawn := w.drawn + 1, heap := w.heap.push (.cells ⟨(l ++ ws) ++ (Builtin.zeroCells zv.cells (nc - (n + m))).toList⟩ E (0, 0)) }, ?_, ⟨[(w.heap.size, .cells ⟨(l ++ ws) ++ (Builtin.zeroCells zv.cells (nc - (n + m))).toList⟩ E (0, 0))], ?_, fun e => (by cases e), rfl⟩, (Sat.new (h := hr) (w := { w with drawn := w.drawn + 1 }) ?_ _)⟩
        · rw [hexec _ hx]
          simp only [Sem.run_bind, hrun, Result.andThen_ok, Sem.run_pure]
        · exact IsSl.row (by simp [hl1, hwl, Nat.add_mul]) (by simp [Builtin.zeroCells, hwl, hl1, hz]; rw [← Nat.add_mul, ← Nat.add_mul]; congr 1; omega) (by omega)
        · have : Sat E' ((hr.flatten ++ R) ++ [(b, .cells ⟨l ++ sp⟩ E (0, 0))]) { w with drawn := w.drawn + 1 } := st2.perm (by
            simp only [List.flatten_cons, List.cons_append, List.nil_append]
            exact (List.perm_append_singleton _ _).symm)
          exact this.sub

end
end Go.Proofs.YtnoicafjkgbokaaDoor
