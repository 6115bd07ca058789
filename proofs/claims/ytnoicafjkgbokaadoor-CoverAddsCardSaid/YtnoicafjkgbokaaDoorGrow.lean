/-
  Slices: nil or not, room, growing, clearing.
-/
import Derived.Test.YtnoicafjkgbokaaDoorArg
import Derived.Scope
namespace Go.Proofs.YtnoicafjkgbokaaDoor
open Go

section
variable {P : Program} {r : Option Nat} {f : Fr} {h : Hp} {d : Option Tmp} {ty : TypeId} {p : String} {af : Array Edge} {gd : Option (Nat × Bool)} {SL : List Blk} {T E T2 : TypeId} {x y : Operand} {k by_ : Nat} {zv v : Value}

theorem S0.capSl {a n c T E} [kk : Und P T (.slice E)] (hx : ev f x = some (.slice a n c)) : S0 P f SL ⟨d, .call ⟨.builtin .cap, #[x], #[T]⟩, ty, p, af, gd⟩ (.int .i64 c) :=
  S0.pure (by intro c; simp) (by intro c hc; simp at hc; exact ⟨_, by rw [← hc]⟩) fun ρ w k' => by
    simp [execOp, resolve, invoke, builtin, Builtin.cap_, k' _ _ hx, run_underlying kk.eq, goInt]
theorem run_equalInS (g : Nat) {T E} [u : Und P T (.slice E)] (a : Option Addr) (n c : Nat) (w : World) : (Op.equalIn (g + 1) T (.slice a n c) (.slice none 0 0)).run P w = .ok a.isNone w := by
  cases a <;> simp only [Op.equalIn, Sem.run_bind, run_underlying u.eq, Result.andThen_ok, Sem.run_pure] <;> rfl
theorem run_equalS {T E} [u : Und P T (.slice E)] (a : Option Addr) (n c : Nat) (w : World) : (Op.equal T (.slice a n c) (.slice none 0 0)).run P w = .ok a.isNone w := run_equalInS 9999 a n c w
theorem S0.nilSl {T U E : TypeId} {x y : Operand} {a : Option Addr} {n c : Nat} {op : BinOp} [u : Und P T (.slice E)] (hx : ev f x = some (.slice a n c)) (hy : ev f y = some (.slice none 0 0)) {q : Bool}
    (hb : (match op with | .eql => some a.isNone | .neq => some (!a.isNone) | _ => none) = some q) : S0 P f SL ⟨d, .binOp op T x y U, ty, p, af, gd⟩ (.bool q) :=
  S0.pure (by intro c; simp) (by intro c; simp) fun ρ w k' => by
    have e1 := run_equalS (P := P) (T := T) (u := u) a n c w
    cases op <;> simp only [Option.some.injEq, reduceCtorEq] at hb <;> subst hb <;> simp [execOp, k' _ _ hx, k' _ _ hy, eqGuard, binOp, e1]

/-- 'append(nil, make([]E, n)...)' -/
theorem S1.growNil {n : Nat} {Q : IntKind} [kk : Und P T (.slice E)] [k2 : Und P T2 (.int Q)] [ki : Inf P E (k + 1) by_ zv] (hx : ev f x = some (.slice none 0 0)) (hy : ev f y = some (.int .i64 n))
    (hpos : 0 < n) (hroom : n ≤ 1000000000) (hb : by_ ≤ 100000 := by decide) :
    S1 P r ⟨d, .call ⟨.builtin .append, #[x, y], #[T, T2]⟩, ty, p, af, gd⟩ f h (fun v' h' => ∃ b nc sp, n ≤ nc ∧ sp.length = nc * zv.cells.size ∧ v' = .slice (some ⟨b, 0, none⟩) n nc ∧ h' = [(b, .cells ⟨sp⟩ E (0, 0))] :: h) :=
  S1.ofRun (by intro c; simp) fun E' R ρ w k' st => by
    have hwrap : IntKind.i64.wrap (n : Int) = n := by simp [IntKind.wrap, IntKind.bits, IntKind.signed]; omega
    have hm : n * by_ ≤ 1000000000 * 100000 := Nat.mul_le_mul hroom hb
    have hroom2 : ¬ ((n : Int) * (by_ : Int) > 2 ^ 48) := by
      have : ((n * by_ : Nat) : Int) ≤ ((1000000000 * 100000 : Nat) : Int) := by exact_mod_cast hm
      rw [Int.natCast_mul] at this
      omega
    have hch : ∀ (α : Type) (g : Nat → Sem α), (choose (.appendCap (0 + n) 0 E) >>= g).run P w = (g (0 + n + w.tape w.drawn (.appendCap (0 + n) 0 E) % (2 ^ 63 - (0 + n)))).run P { w with drawn := w.drawn + 1 } := fun α g => by
      simp only [Sem.run_bind, choose, Sem.run, Question.forced, Bool.false_eq_true, if_false, Question.cut, Result.andThen_ok]
    have hfit : ¬ (Builtin.nextslicecap (0 + n) 0 * by_ > 2 ^ 48) := by
      have := growslice_fits (need := 0 + n) (old := 0) (bytes := by_) (by omega) (by rw [Nat.zero_add]; omega)
      omega
    obtain ⟨nc, hnc⟩ : ∃ nc, nc = 0 + n + w.tape w.drawn (.appendCap (0 + n) 0 E) % (2 ^ 63 - (0 + n)) := ⟨_, rfl⟩
    rw [← hnc] at hch
    have hle : n ≤ nc := by omega
    clear hnc
    obtain ⟨sp, hsp⟩ : ∃ sp, sp = (Builtin.zeroCells zv.cells n).toList ++ (Builtin.zeroCells zv.cells (nc - (0 + n))).toList := ⟨_, rfl⟩
    have hsl : sp.length = nc * zv.cells.size := by
      rw [hsp]; simp [Builtin.zeroCells]; rw [← Nat.add_mul]; congr 1; omega
    refine ⟨.slice (some ⟨w.heap.size, 0, none⟩) n nc, _, { w with drawn := w.drawn + 1, heap := w.heap.push (.cells ⟨sp⟩ E (0, 0)) }, ?_, ⟨w.heap.size, nc, sp, hle, hsl, rfl, rfl⟩, Sat.new (h := h) (w := { w with drawn := w.drawn + 1 }) (Sat.draw st) _⟩
    simp only [execOp, resolve, invoke, builtin, k' _ _ hx, k' _ _ hy, List.map_toArray, List.map_cons, List.map_nil]
    have hk := ki.eq
    cases hi : P.info? E with
    | none => rw [hi] at hk; cases hk
    | some i =>
      rw [hi] at hk
      simp only [Option.map_some, Option.some.injEq, Prod.mk.injEq] at hk
      obtain ⟨hi1, hi2, hi3⟩ := hk
      have hpos2 : ¬ (n * (k + 1) = 0) := fun e => by
        rcases Nat.mul_eq_zero.1 e with e | e <;> omega
      have hi64 : IntKind.i64.max = 9223372036854775807 := by decide
      have hroomrun : ∀ (w0 : World), ((if nc * by_ > roomBytes then mark .noRoom else pure () : Sem Unit)).run P w0 = .ok () w0 := fun w0 => by split <;> rfl
      have has : ∀ w0 : World, (asInt (.int .i64 (n : Int))).run P w0 = .ok (n : Int) w0 := fun _ => rfl
      simp only [Builtin.append_, List.getElem?_toArray, List.getElem?_cons_zero, List.getElem?_cons_succ, Sem.run_bind, run_underlying kk.eq, Result.andThen_ok, run_sizeOf (k := ki), run_underlying k2.eq, Sem.run_pure, if_true, has, hwrap, Bool.false_eq_true, if_false, Bool.not_true]
      rw [if_neg (by omega)]
      simp only [Sem.run_bind, run_ti hi, Result.andThen_ok, hi2, Sem.run_pure]
      rw [if_neg hroom2]
      simp only [Sem.run_bind, run_ti hi, Result.andThen_ok, hi2, Sem.run_pure, Int.toNat_natCast]
      rw [if_neg (by omega), if_neg hpos2]
      simp only [Sem.run_bind, run_ti hi, Result.andThen_ok, hi2, Sem.run_pure]
      rw [if_neg (by rw [hi64]; omega)]
      simp only [Sem.run_bind, run_ti hi, Result.andThen_ok, hi2, Sem.run_pure]
      rw [if_neg hfit]
      rw [hch]
      simp only [Sem.run_bind, askRoom, hroomrun, Result.andThen_ok]
      have hold : ∀ w0 : World, (Builtin.firstCells (k + 1) 0 (.slice none 0 0)).run P w0 = .ok #[] w0 := fun _ => rfl
      simp only [hold, run_zeroV (k := ki), newRow, newObj, Sem.run, Sem.run_pure, Sem.run_bind, Result.andThen_ok]
      simp only [run_ti hi, Result.andThen_ok, hi2, hroomrun]
      have e3 : (#[] : Array Value) ++ Builtin.zeroCells zv.cells n ++ Builtin.zeroCells zv.cells (nc - (0 + n)) = ⟨sp⟩ := by
        rw [hsp]; apply Array.toList_inj.1; simp
      rw [e3, Nat.zero_add]
/-- 'clear(x)' -/
theorem S1.clearSl {b o n c : Nat} {l : List Value} {U : TypeId} {h2 : List Value → Hp} [kk : Und P T (.slice E)] [ki : Inf P E k by_ zv] [hh : Has h b (.cells ⟨l⟩ U (0, 0))] [hu : ∀ l', Upd h b (.cells ⟨l⟩ U (0, 0)) (.cells ⟨l'⟩ U (0, 0)) (h2 l')]
    (hx : ev f x = some (.slice (some ⟨b, o, none⟩) n c)) (hpos : 0 < n) (hle : o + n * k ≤ l.length) (hz : zv.cells.size = k) (hcv : ∀ v ∈ (Builtin.zeroCells zv.cells n).toList, cellV v = true) :
    S1 P r ⟨d, .call ⟨.builtin .clear, #[x], #[T]⟩, ty, p, af, gd⟩ f h (is (.tuple #[]) (h2 (l.take o ++ (Builtin.zeroCells zv.cells n).toList ++ l.drop (o + n * k)))) :=
  S1.ofRun (by intro c; simp) fun E' R ρ w k' st => by
    have hzl : (Builtin.zeroCells zv.cells n).toList.length = n * k := by simp [Builtin.zeroCells, hz]
    have hst := run_storeCells (P := P) (U := U) (Builtin.zeroCells zv.cells n).toList w o 0 l (st.has (k := hh)) (by omega) hcv
    rw [Nat.add_zero, hzl] at hst
    refine ⟨_, _, _, ?_, ⟨rfl, rfl⟩, st.upd (k := hu _)⟩
    obtain ⟨m, rfl⟩ : ∃ m, n = m + 1 := ⟨n - 1, by omega⟩
    simp only [execOp, resolve, invoke, builtin, k' _ _ hx, List.map_toArray, List.map_cons, List.map_nil]
    simp only [Builtin.clear_, List.getElem?_toArray, List.getElem?_cons_zero, Sem.run_bind, run_underlying kk.eq, Result.andThen_ok, run_zeroV (k := ki), hst, Sem.run_pure]
end
/-! a scope through which the run goes without a goto -/
section
variable {P : Program} {F : Fence} {n : Nat} {a : Act} {w : World} {b : Frame} {k : List Item} {cs : List Frame}
theorem stepR_scope {c : Code} : step P (lone (b.atR a (.code (.scope c) :: k)) cs w) = .next (lone (b.atR a (.code c :: .inScope c :: k)) cs w) := by
  first | exact step_lone_go (by simp [stepG, stepG.exec, Frame.atR]) | (simp [Frame.atR, stepG]; done)
theorem stepR_inScope {c : Code} : step P (lone (b.atR a (.inScope c :: k)) cs w) = .next (lone (b.atR a k) cs w) := by
  first | exact step_lone_go (by simp [stepG, stepG.exec, Frame.atR]) | (simp [Frame.atR, stepG]; done)
theorem wpIn_scope {c : Code} {Q : Exit → Act → World → Prop} (h : c.wpIn F n P (Exit.noGoto Q) a w) : (Code.scope c).wpIn F n P Q a w := by
  intro b k cs hro hb hr
  have h0 : (lone (b.atR a (.code (.scope c) :: k)) cs w).fenced P F := fenced_calm hb hr rfl
  obtain ⟨e, a₁, w₁, hq, harr⟩ := h b (.inScope c :: k) cs hro hb hr
  cases e with
  | normal => exact ⟨.normal, a₁, w₁, hq, .head h0 stepR_scope (StepsIn.trans harr (.one (fenced_calm hb hr rfl) stepR_inScope))⟩
  | exit id =>
    have hx : exitTo id (.inScope c :: k) = exitTo id k := by simp [exitTo]
    exact ⟨_, a₁, w₁, hq, fun k' hk => .head h0 stepR_scope (harr.1 k' (by rw [hx]; exact hk)),
      fun hr' hk => let ⟨k₁, h1, h2⟩ := harr.2 hr' (by rw [hx]; exact hk); ⟨k₁, h1, .head h0 stepR_scope h2⟩⟩
  | goto l => exact hq.elim
  | ret => exact ⟨_, a₁, w₁, hq, .of_steps (.one h0 stepR_scope) harr⟩
  | panic ch => exact ⟨_, a₁, w₁, hq, .of_steps (.one h0 stepR_scope) harr⟩
  | outgrown => exact ⟨_, a₁, w₁, hq, .of_steps (.one h0 stepR_scope) harr⟩
end
def Scpd (Q : Exit → Fr → Hp → Prop) : Exit → Fr → Hp → Prop
  | .goto _, _, _ => False
  | e, f, h => Q e f h
theorem WP.scope {P : Program} {r : Option Nat} {Q : Exit → Fr → Hp → Prop} {f : Fr} {h : Hp} {c : Code} (H : WP P r c (Scpd Q) f h) : WP P r (.scope c) Q f h := by
  refine ⟨fun E R a w hf hs => wpIn_scope (wpIn_mono (H.run E R a w hf hs) ?_)⟩
  rintro e a w ⟨f, h, q, hf, hs⟩
  cases e with
  | goto l => exact q.elim
  | _ => exact ⟨f, h, q, hf, hs⟩
end Go.Proofs.YtnoicafjkgbokaaDoor
