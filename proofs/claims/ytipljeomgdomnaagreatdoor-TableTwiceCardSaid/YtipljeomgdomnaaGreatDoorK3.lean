import Derived.Test.YtipljeomgdomnaaGreatDoorK2
import Derived.Lib.AppendStr
import Derived.Lib.UnsafeStr
import Derived.Lib.MakeNoZero
import Derived.Lib.Builder
import Derived.Test.YtipljeomgdomnaaGreatDoorShelf
import Derived.Test.YtipljeomgdomnaaGreatDoorK1
set_option linter.unusedSimpArgs false
set_option linter.unusedVariables false
set_option linter.unnecessarySimpa false
/- W4 -/
namespace Go.Proofs.YtipljeomgdomnaaGreatDoor
open Go

-- left out: mclone_spec (maps.Clone[rivulet/trie.asks,int,int])










-- left out: CopyOK (rivulet/trie.copied)

-- left out: copied_spec (rivulet/trie.copied)




















































































end Go.Proofs.YtipljeomgdomnaaGreatDoor
/- Byte -/
/-
  Rows of bytes; the library's unsafe words, as far as strings.Builder wants them.
-/
namespace Go.Proofs.YtipljeomgdomnaaGreatDoor
open Go

/-- a text's bytes, laid in cells -/
def bys (l : Str) : List Value := l.map fun c => Value.int .u8 c.toNat
theorem bys_len (l : Str) : (bys l).length = l.length := by simp [bys]
theorem bys_app (a b : Str) : bys (a ++ b) = bys a ++ bys b := by simp [bys]
theorem strCells_sv (l : Str) : Lib.strCells ⟨⟨l⟩⟩ = bys l := rfl

class UnsP (P : Program) (T : TypeId) : Prop where
  eq : P.underlying T = some .unsafePointer

section
variable {P : Program} {r : Option Nat} {Q : Exit → Fr → Hp → Prop} {f : Fr} {h h' : Hp} {d : Option Tmp} {ty : TypeId} {p : String} {af : Array Edge} {gd : Option (Nat × Bool)} {S : Hp} {SL : List Blk} {T E U T2 : TypeId} {x y : Operand} {v : Value}

theorem info_of {T sz by_ z} [k : Inf P T sz by_ z] : ∃ i, P.info? T = some i ∧ i.size = sz ∧ i.bytes = by_ ∧ i.zero = some z := by
  have := k.eq
  cases hi : P.info? T with
  | none => rw [hi] at this; cases this
  | some i => rw [hi] at this; simp only [Option.map_some, Option.some.injEq, Prod.mk.injEq] at this; exact ⟨i, rfl, this.1, this.2.1, this.2.2⟩
theorem shape_cells {w : World} {b : Nat} {l : List Value} {U : TypeId} {fz} (hb : w.heap[b]? = some (.cells ⟨l⟩ U fz)) : w.shape? b = some (U, l.length) := by
  simp [World.shape?, hb]
theorem S0.toUnsafe {b : Nat} {l : List Value} {fz : Nat × Nat} {sz by_ z} {src dst t : TypeId} [hh : Has S b (.cells ⟨l⟩ U fz)] [hs : Und P src (.pointer t)] [hd : UnsP P dst] [ht : Inf P t (sz + 1) by_ z] (hx : ev f x = some (.pointer (some ⟨b, 0, none⟩))) (hl : 0 < l.length) :
    S0 P f S.flatten ⟨d, .convert src dst x, ty, p, af, gd⟩ (.pointer (some ⟨b, 0, none⟩)) := by
  refine ⟨by intro c; simp, by intro c; simp, fun ρ w k hS => ?_⟩
  obtain ⟨i, hi, h1, -, -⟩ := info_of (k := ht)
  have := Lib.run_to_unsafe w ⟨b, 0, none⟩ hs.eq hd.eq hi (by omega) (shape_cells (hS _ hh.mem)) hl
  simp [execOp, k _ _ hx, this]
theorem S0.fromUnsafe {b : Nat} {l : List Value} {fz : Nat × Nat} {sz by_ z} {src dst t : TypeId} [hh : Has S b (.cells ⟨l⟩ U fz)] [hs : UnsP P src] [hd : Und P dst (.pointer t)] [ht : Inf P t sz by_ z] (hx : ev f x = some (.pointer (some ⟨b, 0, none⟩))) (hl : liesAt P P.depth U (l.length / P.cellsOf U) 0 t 1 = true) :
    S0 P f S.flatten ⟨d, .convert src dst x, ty, p, af, gd⟩ (.pointer (some ⟨b, 0, none⟩)) := by
  refine ⟨by intro c; simp, by intro c; simp, fun ρ w k hS => ?_⟩
  obtain ⟨i, hi, h1, -, -⟩ := info_of (k := ht)
  have := Lib.run_from_unsafe w ⟨b, 0, none⟩ hs.eq hd.eq hi (shape_cells (hS _ hh.mem)) hl
  simp [execOp, k _ _ hx, this]
/-- a pointer held against itself -/
theorem S0.neqSelf {a : Addr} {U' t : TypeId} {sz by_ z} [hs : Und P T (.pointer t)] [ht : Inf P t sz by_ z] (hx : ev f x = some (.pointer (some a))) (hy : ev f y = some (.pointer (some a))) : S0 P f SL ⟨d, .binOp .neq T x y U', ty, p, af, gd⟩ (.bool false) :=
  S0.pure (by intro c; simp) (by intro c; simp) fun ρ w k' => by
    obtain ⟨i, hi, h1, -, -⟩ := info_of (k := ht)
    have := Lib.run_neq_ptr_same w a hs.eq hi
    simp [execOp, k' _ _ hx, k' _ _ hy, eqGuard, this]
theorem S1.noEscape {g : Nat} {fn : Func} {args : Array Operand} {argT : Array TypeId} (hf : P.funcs[g]? = some fn) (hname : (fn.name == "runtime.NumGoroutine") = false)
    (hb : fn.body.isNone = true) (hn : Extern.findNext fn = none) (he : Extern.find fn = some Extern.AbiNoEscape.same) (ha : evs f args.toList = some [v]) : S1 P r ⟨d, .call ⟨.value (.func g), args, argT⟩, ty, p, af, gd⟩ f h (is v h) :=
  S1.extern hf hname hb hn he ha fun E R w st => ⟨v, h, w, Lib.run_noEscape w v, ⟨rfl, rfl⟩, st⟩
/-- room for n bytes -/
theorem S1.makeNoZero {g n : Nat} {fn : Func} {args : Array Operand} {argT ps : Array TypeId} [ku : Und P T (.slice E)] (hf : P.funcs[g]? = some fn) (hname : (fn.name == "runtime.NumGoroutine") = false)
    (hb : fn.body.isNone = true) (hn : Extern.findNext fn = none) (he : Extern.find fn = some (Extern.BytealgMakeNoZero.makeNoZero ps #[T])) (ha : evs f args.toList = some [.int .i64 (n : Int)]) (hle : n ≤ 1000000000) :
    S1 P r ⟨d, .call ⟨.value (.func g), args, argT⟩, ty, p, af, gd⟩ f h (fun v h' => ∃ b cs, n ≤ cs.length ∧ v = .slice (some ⟨b, 0, none⟩) n cs.length ∧ h' = [(b, .cells ⟨cs⟩ E (0, 0))] :: h) :=
  S1.extern hf hname hb hn he ha fun E' R w st => by
    obtain ⟨⟨cs⟩, hr, h1, -⟩ := Lib.run_makeNoZero (P := P) w ps T E ku.eq n (by omega)
    refine ⟨_, _, _, hr, ⟨w.heap.size, cs, by simpa using h1, by simp, rfl⟩, ?_⟩
    have st2 : Sat E' (h.flatten ++ R) w.drew.drew := st.draw.draw
    exact st2.new _
/-- 'append(x, s...)' with room -/
theorem S1.appendSt {b n c : Nat} {cur : List Value} {s : Str} {h2 : Hp} {by_ : Nat} {z : Value} [kk : Und P T (.slice E)] [k2 : Und P T2 .string] [ki : Inf P E 1 by_ z] [hh : Has h b (.cells ⟨cur⟩ E (0, 0))] [hu : Upd h b (.cells ⟨cur⟩ E (0, 0)) (.cells ⟨cur.take n ++ bys s ++ cur.drop (n + s.length)⟩ E (0, 0)) h2]
    (hx : ev f x = some (.slice (some ⟨b, 0, none⟩) n c)) (hy : ev f y = some (sv s)) (hroom : n + s.length ≤ c) (hfit : n + s.length ≤ cur.length) :
    S1 P r ⟨d, .call ⟨.builtin .append, #[x, y], #[T, T2]⟩, ty, p, af, gd⟩ f h (is (.slice (some ⟨b, 0, none⟩) (n + s.length) c) h2) :=
  S1.ofRun (by intro c; simp) fun E' R ρ w k' st => by
    have hm := st.has (k := hh)
    obtain ⟨i, hi, h1, -, -⟩ := info_of (k := ki)
    have hrun := Lib.run_append_room_string (P := P) w T T2 ty E i kk.eq k2.eq hi h1 b n c ⟨cur⟩ hm ⟨⟨s⟩⟩ hroom hfit
    refine ⟨_, h2, _, ?_, ⟨rfl, rfl⟩, st.upd (k := hu)⟩
    have e : w.setRow b (cur.take n ++ bys s ++ cur.drop (n + s.length)).toArray = { w with heap := w.heap.setIfInBounds b (.cells ⟨cur.take n ++ bys s ++ cur.drop (n + s.length)⟩ E (0, 0)) } := by
      obtain ⟨hlt, hg⟩ := Array.getElem?_eq_some_iff.1 hm
      unfold World.setRow
      congr 1
      apply Array.ext
      · simp
      · intro j h1 h2
        rw [Array.getElem_modify, Array.getElem_setIfInBounds (by simpa using h2)]
        split
        · rename_i e; subst e; rw [hg]
        · rfl
    rw [← e]
    have he : execOp ρ ⟨d, .call ⟨.builtin .append, #[x, y], #[T, T2]⟩, ty, p, af, gd⟩ = (do Pure.pure (Next.value (← Builtin.append_ #[T, T2] ty #[.slice (some ⟨b, 0, none⟩) n c, sv s]))) := by
      simp only [execOp, resolve, invoke, builtin]
      simp [k' _ _ hx, k' _ _ hy]
    rw [he, Sem.run_bind]
    exact congrArg (fun q : Result Value => q.andThen fun a w' => (pure (Next.value a) : Sem Next).run P w') hrun
/-- where the bytes of a slice lie -/
theorem S0.sliceData {a : Addr} {n c : Nat} {argT : Array TypeId} (hx : ev f x = some (.slice (some a) n (c + 1))) : S0 P f SL ⟨d, .call ⟨.builtin .unsafeSliceData, #[x], argT⟩, ty, p, af, gd⟩ (.pointer (some a)) :=
  S0.pure (by intro c; simp) (by intro c hc; simp at hc; exact ⟨_, by rw [← hc]⟩) fun ρ w k' => by
    have he : execOp ρ ⟨d, .call ⟨.builtin .unsafeSliceData, #[x], argT⟩, ty, p, af, gd⟩ = (do Pure.pure (Next.value (← Builtin.unsafeSliceData_ argT ty #[.slice (some a) n (c + 1)]))) := by
      simp only [execOp, resolve, invoke, builtin]
      simp [k' _ _ hx]
    have hr : (Builtin.unsafeSliceData_ argT ty #[.slice (some a) n (c + 1)]).run P w = .ok (.pointer (some a)) w := rfl
    rw [he, Sem.run_bind, hr]
    rfl
theorem S1.sliceData {a : Addr} {n c : Nat} {argT : Array TypeId} (hx : ev f x = some (.slice (some a) n c)) (hc : c ≠ 0) : S1 P r ⟨d, .call ⟨.builtin .unsafeSliceData, #[x], argT⟩, ty, p, af, gd⟩ f h (is (.pointer (some a)) h) := by
  obtain ⟨c, rfl⟩ : ∃ c', c = c' + 1 := ⟨c - 1, by omega⟩
  exact S1.of0 (S0.sliceData hx)
/-- the bytes as a text: the row is frozen so far -/
theorem S1.unsafeString {b : Nat} {l : Str} {sp : List Value} {T3 : TypeId} {h2 : Hp} [kk : Und P T (.pointer E)] [hh : Has h b (.cells ⟨bys l ++ sp⟩ E (0, 0))] [hu : Upd h b (.cells ⟨bys l ++ sp⟩ E (0, 0)) (.cells ⟨bys l ++ sp⟩ E (0, l.length)) h2]
    (hx : ev f x = some (.pointer (some ⟨b, 0, none⟩))) (hy : ev f y = some (.int .i64 (l.length : Int))) (h0 : l ≠ []) (hc : P.cellsOf E = 1) (hl : l.length ≤ 1000000000) :
    S1 P r ⟨d, .call ⟨.builtin .unsafeString, #[x, y], #[T, T3]⟩, ty, p, af, gd⟩ f h (is (sv l) h2) :=
  S1.ofRun (by intro c; simp) fun E' R ρ w k' st => by
    have hm := st.has (k := hh)
    have hrun := Lib.run_unsafeString_row (P := P) w T T3 ty E kk.eq hc b (bys l ++ sp).length (shape_cells hm) l h0 (by simp [bys]) (by omega) (fun j x hj => by
      have : (⟨b, 0, none⟩ : Addr).add j = ⟨b, j, none⟩ := by unfold Addr.add; split <;> simp_all
      rw [this]
      refine cell_of hm ?_
      have hlt := (List.getElem?_eq_some_iff.1 hj).1
      rw [List.getElem?_append_left (by simpa [bys] using hlt)]
      simp [bys, hj])
    refine ⟨_, h2, _, ?_, ⟨rfl, rfl⟩, st.upd (k := hu)⟩
    have e : w.freeze ⟨b, 0, none⟩ l.length = { w with heap := w.heap.setIfInBounds b (.cells ⟨bys l ++ sp⟩ E (0, l.length)) } := by
      obtain ⟨hlt, hg⟩ := Array.getElem?_eq_some_iff.1 hm
      unfold World.freeze
      rw [if_neg (by simpa using h0)]
      congr 1
      apply Array.ext
      · simp
      · intro j h1 h2
        rw [Array.getElem_modify, Array.getElem_setIfInBounds (by simpa using h2)]
        split
        · rename_i e; subst e; rw [hg]; simp
        · rfl
    rw [← e]
    have he : execOp ρ ⟨d, .call ⟨.builtin .unsafeString, #[x, y], #[T, T3]⟩, ty, p, af, gd⟩ = (do Pure.pure (Next.value (← Builtin.unsafeString_ #[T, T3] ty #[.pointer (some ⟨b, 0, none⟩), .int .i64 (l.length : Int)]))) := by
      simp only [execOp, resolve, invoke, builtin]
      simp [k' _ _ hx, k' _ _ hy]
    rw [he, Sem.run_bind]
    exact congrArg (fun q : Result Value => q.andThen fun a w' => (pure (Next.value a) : Sem Next).run P w') hrun
/-- 'copy' of nothing -/
theorem S1.copyNil {a : Addr} {n c : Nat} {by_ k : Nat} {z : Value} [kk : Und P T (.slice E)] [ki : Inf P E k by_ z] (hx : ev f x = some (.slice (some a) n c)) (hy : ev f y = some (.slice none 0 0)) :
    S1 P r ⟨d, .call ⟨.builtin .copy, #[x, y], #[T, T2]⟩, ty, p, af, gd⟩ f h (is (.int .i64 0) h) :=
  S1.ofRun (by intro c; simp) fun E' R ρ w k' st => by
    refine ⟨_, h, w, ?_, ⟨rfl, rfl⟩, st⟩
    simp only [execOp, resolve, invoke, builtin]
    simp [k' _ _ hx, k' _ _ hy, Builtin.copy_, run_underlying kk.eq, Builtin.lenOf, run_sizeOf (k := ki), Builtin.firstCells, storeCells, goInt]
end
end Go.Proofs.YtipljeomgdomnaaGreatDoor
/- Split -/
namespace Go.Proofs.YtipljeomgdomnaaGreatDoor
open Go

theorem FN.ofCalls {P : Program} {g : Nat} {args : List Value} {v : Value} (he : ∀ a w, (callFunc g a).run P w = .ok (.enter g a) w) (H : ∀ w, Calls P g ⟨args⟩ w fun e w' => e = .returned v ∧ w' = w) : FN P g args [] (is v []) :=
  ⟨he, fun _ _ w st => (H w).mono fun _ _ ⟨e1, e2⟩ => ⟨v, [], e1, ⟨rfl, rfl⟩, by subst e2; exact st⟩⟩
theorem idx_neg (c : UInt8) : ∀ (s : Str), Lib.indexByte s c < 0 → c ∉ s
  | [], _ => by simp
  | b :: s, h => by
    unfold Lib.indexByte at h
    split at h
    · omega
    · rename_i hb
      have hb' : ¬ b = c := by simpa using hb
      have h2 : Lib.indexByte s c < 0 := by
        split at h
        · rename_i h3; have : Lib.indexByte s c = -1 := by simpa using h3
          omega
        · omega
      have := idx_neg c s h2
      simp only [List.mem_cons, not_or]
      exact ⟨fun e => hb' e.symm, this⟩
theorem idx_pos (c : UInt8) : ∀ (s : Str), ¬ Lib.indexByte s c < 0 → ∃ a b, s = a ++ c :: b ∧ Lib.indexByte s c = (a.length : Int) ∧ c ∉ a
  | [], h => by simp [Lib.indexByte] at h
  | b :: s, h => by
    unfold Lib.indexByte at h ⊢
    split at h
    · rename_i hb
      rw [if_pos hb]
      have hb' : b = c := by simpa using hb
      exact ⟨[], s, by simp [hb'], by simp, by simp⟩
    · rename_i hb
      rw [if_neg hb]
      have hb' : ¬ b = c := by simpa using hb
      split at h
      · omega
      · rename_i h2
        rw [if_neg h2]
        have hge := Lib.indexByte_ge s c
        have h3 : ¬ Lib.indexByte s c = -1 := by simpa using h2
        obtain ⟨a, b2, e1, e2, e3⟩ := idx_pos c s (by omega)
        refine ⟨b :: a, b2, by rw [e1]; rfl, by rw [e2]; simp, ?_⟩
        simp only [List.mem_cons, not_or]
        exact ⟨fun e => hb' e.symm, e3⟩
theorem Sup.mid (c : List Blk) (k a : Hp) : Sup (c :: (k ++ a)) (c :: a) :=
  ⟨k, by simp only [List.flatten_cons, List.flatten_append, List.append_assoc]; exact List.Perm.append_left _ List.perm_append_comm⟩
theorem index_slash (s : Str) : FN Tryz.prog 121 [sv s, sv [47]] [] (is (.int .i64 (Lib.indexByte s 47)) []) :=
  FN.ofCalls (enters Tryz.func121 (by kernel_rfl) rfl) (fun w => Tryz.strings_Index_one ⟨⟨s⟩⟩ 47 w)

theorem split_iter {bs bp b0 : Nat} {s : Str} (hl : s.length ≤ 1000000) : IterF Tryz.prog 119 [.pointer (some ⟨bp, 0, none⟩), .pointer (some ⟨bs, 0, none⟩), .pointer (some ⟨b0, 0, none⟩)]
    [[(bs, cel [sv s] 9)], [(bp, cel [sv [47]] 9)], [(b0, cel [.int .i64 0] 3)]] [] (fun x : Str => [sv x]) (fun pre x => ∃ post, levels s = pre ++ x :: post) (fun xs => xs = levels s) (fun _ => True) := by
  refine ⟨enters Tryz.func119 (by kernel_rfl) rfl, fun l J Jx hJ hY h0 hJ0 => ?_⟩
  show FN _ _ _ ([(bs, cel [sv s] 9)] :: [(bp, cel [sv [47]] 9)] :: [(b0, cel [.int .i64 0] 3)] :: h0) _
  refine FN.intro 52 [(0, .func (.yield l) #[] #[]), (1, .pointer (some ⟨bp, 0, none⟩)), (2, .pointer (some ⟨bs, 0, none⟩)), (3, .pointer (some ⟨b0, 0, none⟩))] Tryz.func119 rfl (enters Tryz.func119 (by kernel_rfl) rfl) Tryz.ntmps119 rfl rfl ?_
  refine WP.seq <| WP.seq <| WP.region <| v0 (S0.load rfl rfl) rfl <| v0 (S0.lenSt rfl) rfl <| v0 (S0.cmp rfl rfl rfl) rfl <| vE <| ?_  -- cond
  refine WP.condFh rfl (rfl) ?_
  refine WP.skip <| WP.seq <| WP.block <| ?_  -- Code.loop
  refine WP.loop (fun s2 : List Str × Str × Hp => levels s = s2.1 ++ levels s2.2.1 ∧ s2.2.1.length ≤ 1000000 ∧ J s2.1 s2.2.2) (fun s2 : List Str × Str × Hp => [(0, .func (.yield l) #[] #[]), (1, .pointer (some ⟨bp, 0, none⟩)), (2, .pointer (some ⟨bs, 0, none⟩)), (3, .pointer (some ⟨b0, 0, none⟩))]) (fun s2 : List Str × Str × Hp => [(bs, cel [sv s2.2.1] 9)] :: [(bp, cel [sv [47]] 9)] :: [(b0, cel [.int .i64 0] 3)] :: s2.2.2) (fun s2 : List Str × Str × Hp => s2.2.1.length) (([], s, h0)) (⟨by simp, hl, hJ0⟩) ⟨rfl, rfl, rfl, rfl, trivial⟩ ⟨[], by simp⟩ (fun s2 hinv => ?_) 
  obtain ⟨pre, rest, h⟩ := s2
  have h47 : ([47] : Str).length = 1 := rfl
  obtain ⟨hlev, hlen, hJs⟩ := hinv
  dsimp only at *
  have hpy : ∀ (h4 : Hp) (x : Str), (h4 ++ ([(bs, cel [sv x] 9)] :: [(bp, cel [sv [47]] 9)] :: [(b0, cel [.int .i64 0] 3)] :: [] : Hp)).flatten.Perm (([(bs, cel [sv x] 9)] :: [(bp, cel [sv [47]] 9)] :: [(b0, cel [.int .i64 0] 3)] :: h4 : Hp).flatten ++ ([] : Hp).flatten) := fun h4 x => by
    simp only [List.flatten_append, List.flatten_cons, List.flatten_nil, List.append_nil, List.cons_append, List.nil_append]
    exact List.perm_append_comm (l₂ := [_, _, _])
  refine WP.block <| WP.seq <| WP.region <| v0 (S0.load rfl rfl) rfl <| v0 (S0.load rfl rfl) rfl <| ?_  -- op t31 := call F121{strings.Index}(t29, t30)
  refine vcd (S1.callF rfl (index_slash rest) take0) rfl ?_
  refine v0 (S0.assign rfl) rfl <| vE <| WP.seq <| WP.seq <| WP.region <| v0 (S0.move rfl) rfl <| v0 (S0.cmp rfl rfl rfl) rfl <| vE <| ?_  -- cond
  first | refine WP.condP rfl (fun hneg => ?_) (fun hneg => ?_) | refine WP.condN rfl (fun hneg => ?_) (fun hneg => ?_) | refine WP.cond rfl (fun hneg => ?_) (fun hneg => ?_)
  · skip
    refine WP.exit <| WP.region <| v0 (S0.move rfl) rfl <| v0 (S0.load rfl rfl) rfl <| ?_  -- op t51 := call t49(t50)
    have hno := idx_neg 47 rest hneg
    rw [levels_none hno] at hlev
    refine ve (S1.yield (hr := [(bs, cel [sv rest] 9)] :: [(bp, cel [sv [47]] 9)] :: [(b0, cel [.int .i64 0] 3)] :: []) rfl rfl (hY pre rest h hJs ⟨[], hlev⟩) (by
        simp only [List.flatten_cons, List.flatten_nil, List.append_nil, List.cons_append, List.nil_append]
        exact List.perm_append_comm (l₁ := [_, _, _]))) rfl ?_
    rintro _ _ ⟨h4, ⟨bb, rfl, hpost⟩, rfl⟩
    refine vE <| ?_  -- fnend
    refine Leaves.drop (h' := [(bs, cel [sv rest] 9)] :: [(bp, cel [sv [47]] 9)] :: [(b0, cel [.int .i64 0] 3)] :: h4) (k := []) (hpy h4 rest) ?_
    refine r0 rfl ?_
    refine ⟨[[(bs, cel [sv rest] 9)], [(bp, cel [sv [47]] 9)], [(b0, cel [.int .i64 0] 3)]], pre ++ [rest], h4, trivial, rfl, ?_⟩
    rcases hpost with ⟨-, h1⟩ | ⟨-, h1⟩
    · exact .inl ⟨hlev.symm, h1⟩
    · exact .inr h1
  · skip
    obtain ⟨a, b, rfl, hidx, hna⟩ := idx_pos 47 rest hneg
    rw [hidx]
    rw [levels_cut b hna] at hlev
    simp only [List.length_append, List.length_cons] at hlen
    refine WP.skip <| WP.seq <| WP.region <| v0 (S0.load rfl rfl) rfl <| v0 (S0.move rfl) rfl <| v0 (S0.load rfl rfl) rfl <| v0 (S0.ari rfl rfl rfl (wrap_i64 (by omega))) rfl <| ?_  -- op t38 := slice 9 t34 none t37 none
    refine v0 (S0.sliceSt (i := 0) (j := a.length) rfl rfl rfl (by simp)) rfl <| ?_
    simp only [List.drop_zero, Nat.sub_zero, List.take_left]
    refine v0 (S0.assign rfl) rfl <| vE <| WP.seq <| WP.seq <| WP.region <| v0 (S0.move rfl) rfl <| v0 (S0.move rfl) rfl <| ?_  -- op t41 := call t39(t40)
    refine ve (S1.yield (hr := [(bs, cel [sv (a ++ 47 :: b)] 9)] :: [(bp, cel [sv [47]] 9)] :: [(b0, cel [.int .i64 0] 3)] :: []) rfl rfl (hY pre a h hJs ⟨_, hlev⟩) (by
        simp only [List.flatten_cons, List.flatten_nil, List.append_nil, List.cons_append, List.nil_append]
        exact List.perm_append_comm (l₁ := [_, _, _]))) rfl ?_
    rintro _ _ ⟨h4, ⟨bb, rfl, hpost⟩, rfl⟩
    refine v0 (S0.not rfl) rfl <| vE <| ?_  -- cond
    rcases hpost with ⟨rfl, hJ2⟩ | ⟨rfl, hJ2⟩
    skip
    · skip
      refine WP.condFh rfl (rfl) ?_
      refine WP.perm (h' := [(bs, cel [sv (a ++ 47 :: b)] 9)] :: [(bp, cel [sv [47]] 9)] :: [(b0, cel [.int .i64 0] 3)] :: h4) (k := []) (hpy h4 _) ?_
      refine WP.skip <| WP.region <| v0 (S0.load rfl rfl) rfl <| v0 (S0.move rfl) rfl <| v0 (S0.load rfl rfl) rfl <| v0 (S0.lenSt rfl) rfl <| v0 (S0.ari rfl rfl rfl (wrap_i64 (by omega))) rfl <| ?_  -- op t48 := slice 9 t43 t47 none none
      refine v0 (S0.sliceSt (i := a.length + 1) (j := (a ++ 47 :: b).length) rfl rfl rfl (by simp)) rfl <| ?_
      have e : ((a ++ 47 :: b).drop (a.length + 1)).take ((a ++ 47 :: b).length - (a.length + 1)) = b := by
        have e1 : (a ++ 47 :: b).drop (a.length + 1) = b := by rw [List.drop_append]; simp
        rw [e1, List.take_of_length_le (by simp; omega)]
      rw [e]
      refine vs (S1.store rfl rfl (by first | rfl | exact IsSl.cv (by assumption))) <| vE <| ?_  -- roundend
      exact ⟨(pre ++ [a], b, h4), (by first | exact ⟨by rw [hlev]; simp, by omega, hJ2⟩ | (dsimp only; exact ⟨by rw [hlev]; simp, by omega, hJ2⟩)), (by simp; omega), ⟨⟨rfl, rfl, rfl, rfl, trivial⟩, rfl, rfl⟩, ⟨[], by simp⟩⟩
    · skip
      refine WP.condTh rfl (rfl) ?_
      refine WP.ret <| ?_  -- ret
      refine Leaves.drop (h' := [(bs, cel [sv (a ++ 47 :: b)] 9)] :: [(bp, cel [sv [47]] 9)] :: [(b0, cel [.int .i64 0] 3)] :: h4) (k := []) (hpy h4 _) ?_
      refine r0 rfl ?_
      exact ⟨[[(bs, cel [sv (a ++ 47 :: b)] 9)], [(bp, cel [sv [47]] 9)], [(b0, cel [.int .i64 0] 3)]], pre ++ [a], h4, trivial, rfl, .inr hJ2⟩

theorem splitSeq_spec (s : Str) : FN Tryz.prog 91 [sv s, sv [47]] [] (fun v h => ∃ bs bp b0, v = .func (.func 119) ⟨[]⟩ ⟨[.pointer (some ⟨bp, 0, none⟩), .pointer (some ⟨bs, 0, none⟩), .pointer (some ⟨b0, 0, none⟩)]⟩ ∧ h = [[(b0, cel [.int .i64 0] 3)], [(bp, cel [sv [47]] 9)], [(bs, cel [sv s] 9)]]) := by
  have inner : FN Tryz.prog 102 [sv s, sv [47], .int .i64 0] [] (fun v h => ∃ bs bp b0, v = .func (.func 119) ⟨[]⟩ ⟨[.pointer (some ⟨bp, 0, none⟩), .pointer (some ⟨bs, 0, none⟩), .pointer (some ⟨b0, 0, none⟩)]⟩ ∧ h = [[(b0, cel [.int .i64 0] 3)], [(bp, cel [sv [47]] 9)], [(bs, cel [sv s] 9)]]) := by
    refine FN.intro 8 [(0, sv s), (1, sv [47]), (2, .int .i64 0)] Tryz.func102 rfl (enters Tryz.func102 (by kernel_rfl) rfl) Tryz.ntmps102 rfl rfl ?_
    refine WP.seq <| WP.region <| vn (S1.box rfl rfl) rfl fun b3 => vn (S1.box rfl rfl) rfl fun b4 => vn (S1.box rfl rfl) rfl fun b5 => v0 (S0.assign rfl) rfl <| vE <| WP.seq <| WP.region <| v0 (S0.makeFunc rfl rfl) rfl <| v0 (S0.assign rfl) rfl <| vE <| WP.ret <| ?_  -- ret
    refine r1 rfl rfl ?_
    exact ⟨_, _, _, rfl, rfl⟩
  refine FN.intro 8 [(0, sv s), (1, sv [47])] Tryz.func91 rfl (enters Tryz.func91 (by kernel_rfl) rfl) Tryz.ntmps91 rfl rfl ?_
  refine WP.seq <| WP.region <| v0 (S0.assign rfl) rfl <| vE <| WP.seq <| WP.region <| v0 (S0.move rfl) rfl <| v0 (S0.move rfl) rfl <| ?_  -- op t7 := call F102{strings.splitSeq}(t5, t6, 0:i64)
  refine vc (S1.callF rfl (inner) take0) rfl ?_
  rintro _ _ ⟨bs, bp, b0, rfl, rfl⟩
  refine app ?_
  refine v0 (S0.assign rfl) rfl <| vE <| WP.ret <| ?_  -- ret
  refine r1 rfl rfl ?_
  exact ⟨_, _, _, rfl, rfl⟩

/-- topic.Levels -/
theorem levels_spec {s : Str} (hl : s.length ≤ 1000000) : FN Tryz.prog 62 [sv s] [] (fun v h => ∃ row, IsSl 9 1 v (strs (levels s)) row ∧ h = [row]) := by
  have hll := levels_len s
  refine FN.intro 13 [(0, sv s)] Tryz.func62 rfl (enters Tryz.func62 (by kernel_rfl) rfl) Tryz.ntmps62 rfl rfl ?_
  refine WP.seq <| WP.region <| v0 (S0.assign rfl) rfl <| vE <| WP.seq <| WP.region <| vn (S1.alloc) rfl fun b3 => vE <| WP.seq <| WP.seq <| WP.region <| v0 (S0.move rfl) rfl <| ?_  -- op t6 := call F91{strings.SplitSeq}(t5, Value.string {'data': [47]})
  refine vc (S1.callF rfl (splitSeq_spec s) take0) rfl ?_
  rintro _ _ ⟨bs, bp, b0, rfl, rfl⟩
  refine app ?_
  refine vE <| WP.block <| ?_  -- Code.rangeFunc
  refine WP.rangeSupF (split_iter hl) rfl (take1 (atS (atS at0)) (take1 (atS at0) (take1 at0 take0))) rfl (fun _ => rfl) ((fun pre h => ∃ v row, IsSl 9 1 v (strs pre) row ∧ h = [(b3, cel [v] 23)] :: row :: [])) ((fun _ _ _ => False)) ?_ ?_ ?_ ?_ ?_
  · rintro pre h -
    exact ⟨h, by simp⟩
  · exact ⟨_, ⟨_, [], .nil, rfl⟩, [], by simp⟩
  · rintro l pre x _ ⟨v, row, hsl, rfl⟩ ⟨post, hpost⟩
    have hlen : pre.length ≤ 1000000 := by
      have := congrArg List.length hpost
      simp at this; omega
    show WP _ _ _ _ ⟨_, (7, _) :: _, _⟩ _
    skip
    refine WP.region <| v0 (S0.assign rfl) rfl <| vE <| WP.block <| WP.region <| v0 (S0.load rfl rfl) rfl <| v0 (S0.move rfl) rfl <| vnv (S1.buildSlice rfl (qs := [(0, _)]) rfl rfl) rfl fun b10 => ?_  -- op t11 := append(t8, t10) :[23, 23]
    refine ve (S1.appendL rfl hsl rfl rfl (atS (atS at0)) rfl rfl (by rw [strs_len]; simp; omega)) rfl ?_
    rintro v2 _ ⟨row2, hsl2, rfl⟩
    refine vs (S1.store rfl rfl (by first | rfl | exact IsSl.cv (by assumption))) <| vE <| ?_  -- roundend
    refine ⟨_, ⟨v2, row2, ?_, rfl⟩, ?_⟩
    · simpa [strs] using hsl2
    · exact ⟨_, (take1 (atS (atS at0)) (take1 at0 take0))⟩
  · rintro D hi' xs h1 hx - hS ⟨v, row, hsl, rfl⟩ hsup
    refine WP.sup (hsup.trans (Sup.mid _ hi' _)) ?_
    subst hS
    skip
    refine WP.seq <| WP.region <| v0 (S0.load rfl rfl) rfl <| v0 (S0.assign rfl) rfl <| vE <| WP.ret <| ?_  -- ret
    refine rm (take1 at0 take0) ?_
    refine Leaves.drop (take1 (atS at0) take0) ?_
    refine r1 rfl rfl ?_
    exact ⟨row, hsl, rfl⟩
  · rintro D hi' c xs h1 hx - hf
    exact hf.elim
end Go.Proofs.YtipljeomgdomnaaGreatDoor
/- Topic -/
namespace Go.Proofs.YtipljeomgdomnaaGreatDoor
open Go

theorem below_at {α : Type} {R : List α} {p : Nat → α → Prop} {i : Nat} {x : α} (h : ∀ j y, j < i → R[j]? = some y → p j y) (hx : R[i]? = some x) (hp : p i x) : ∀ j y, j < i + 1 → R[j]? = some y → p j y := fun j y hj hy => by
  by_cases e : j = i
  · subst e; rw [hx] at hy; cases hy; exact hp
  · exact h j y (by omega) hy
def idxP {α : Type} (p : α → Bool) (l : List α) : Int := match l.findIdx? p with | some i => (i : Int) | none => -1
theorem idxP_at {α : Type} {p : α → Bool} {l : List α} {i : Nat} {x : α} (h : ∀ j y, j < i → l[j]? = some y → p y = false) (hx : l[i]? = some x) (hp : p x = true) : idxP p l = i := by
  have : l.findIdx? p = some i := by
    rw [List.findIdx?_eq_some_iff_getElem]
    obtain ⟨hlt, e⟩ := List.getElem?_eq_some_iff.1 hx
    refine ⟨hlt, by rw [e]; exact hp, fun j hj => ?_⟩
    have := h j l[j] hj (by simp)
    simp [this]
  simp [idxP, this]
theorem idxP_none {α : Type} {p : α → Bool} {l : List α} (h : ∀ j y, j < l.length → l[j]? = some y → p y = false) : idxP p l = -1 := by
  have : l.findIdx? p = none := by
    rw [List.findIdx?_eq_none_iff]
    intro x hx
    obtain ⟨j, hj, e⟩ := List.getElem_of_mem hx
    exact h j x hj (by rw [List.getElem?_eq_getElem hj, e])
  simp [idxP, this]
theorem idxP_any {α : Type} (p : α → Bool) (l : List α) : decide (0 ≤ idxP p l) = l.any p := by
  unfold idxP
  cases h : l.findIdx? p with
  | none =>
    rw [List.findIdx?_eq_none_iff] at h
    have : l.any p = false := by rw [List.any_eq_false]; intro x hx; simp [h x hx]
    rw [this]; rfl
  | some i =>
    rw [List.findIdx?_eq_some_iff_getElem] at h
    obtain ⟨hlt, hp, -⟩ := h
    have : l.any p = true := List.any_eq_true.2 ⟨_, List.getElem_mem hlt, hp⟩
    rw [this]; simp
theorem FN.nil1 {P : Program} {g : Nat} {args : List Value} {c : List Blk} {v : Value} (H : FN P g args [c, []] (is v [c, []])) : FN P g args [c] (is v [c]) :=
  ⟨H.enters, fun E R w st => (H.run E R w (by simpa using st)).mono fun _ _ ⟨v', h', e, ⟨e1, e2⟩, s⟩ => ⟨v, [c], by rw [e, e1], ⟨rfl, rfl⟩, by subst e2; simpa using s⟩⟩
theorem FN.nil0 {P : Program} {g : Nat} {args : List Value} {v : Value} (H : FN P g args [] (is v [])) : FN P g args [[]] (is v [[]]) :=
  ⟨H.enters, fun E R w st => (H.run E R w (by simpa using st)).mono fun _ _ ⟨v', h', e, ⟨e1, e2⟩, s⟩ => ⟨v, [[]], by rw [e, e1], ⟨rfl, rfl⟩, by subst e2; simpa using s⟩⟩

theorem idxFuncS {g : Nat} {caps : List Value} {cm : List Blk} {p : Str → Bool} {l : List Str} {v : Value} {row : List Blk} (hs : IsSl 9 1 v (strs l) row) (hl : l.length ≤ 1000000) (hc : ∀ x ∈ l, FN Tryz.prog g (sv x :: caps) [cm] (is (.bool (p x)) [cm])) :
    FN Tryz.prog 79 [v, .func (.func g) ⟨[]⟩ ⟨caps⟩] [row, cm] (is (.int .i64 (idxP p l)) [row, cm]) := by
  obtain ⟨a, cap, rfl, hcap, hrow⟩ := hs.strsE
  refine FN.intro 19 [(0, .slice a l.length cap), (1, .func (.func g) ⟨[]⟩ ⟨caps⟩)] Tryz.func79 rfl (enters Tryz.func79 (by kernel_rfl) rfl) Tryz.ntmps79 rfl rfl ?_
  refine WP.seq <| WP.region <| v0 (S0.assign rfl) rfl <| vE <| WP.seq <| WP.seq <| WP.region <| v0 (S0.move rfl) rfl <| v0 (S0.lenSl rfl) rfl <| v0 (S0.move rfl) rfl <| vE <| WP.block <| ?_  -- Code.loop
  refine WP.loop (fun i : Nat => i ≤ l.length ∧ ∀ j y, j < i → l[j]? = some y → p y = false) (fun i : Nat => [(0, .slice a l.length cap), (1, .func (.func g) ⟨[]⟩ ⟨caps⟩), (7, .int .i64 (l.length : Int)), (8, .int .i64 (i : Int))]) (fun i : Nat => [row, cm]) (fun i : Nat => l.length - i) (0) (⟨by omega, fun j y hj => by omega⟩) ⟨rfl, rfl, rfl, rfl, trivial⟩ ⟨_, (take1 at0 (take1 at0 take0))⟩ (fun i hinv => ?_) 
  obtain ⟨hi, hno⟩ := hinv
  refine WP.seq <| WP.region <| v0 (S0.cmp rfl rfl rfl) rfl <| vE <| WP.seq <| ?_  -- cond
  first | refine WP.condP rfl (fun h1 => ?_) (fun h1 => ?_) | refine WP.condN rfl (fun h1 => ?_) (fun h1 => ?_) | refine WP.cond rfl (fun h1 => ?_) (fun h1 => ?_)
  · skip
    have hlt : i < l.length := by omega
    rcases hrow with ⟨rfl, -⟩ | ⟨b1, sp1, rfl, rfl, hsp1⟩
    · simp at hlt
    have hx : l[i]? = some l[i] := by simp [hlt]
    refine WP.skip <| WP.seq <| WP.block <| WP.seq <| WP.region <| v0 (S0.move rfl) rfl <| v0 (S0.assign rfl) rfl <| vE <| WP.seq <| WP.region <| v0 (S0.move rfl) rfl <| v0 (S0.move rfl) rfl <| v0 (S0.move rfl) rfl <| ?_  -- op t14 := indexAddr 23 t12 t13
    refine v0 (S0.index1 rfl rfl hlt) rfl <| ?_
    refine v0 (S0.load rfl (strs_get hx)) rfl <| ?_
    -- (nothing to walk: op t16 := call t11(t15))
    refine vcd (S1.callC rfl rfl rfl (hc l[i] (List.getElem_mem hlt)) (take1 (atS at0) take0)) rfl ?_
    refine vE <| ?_  -- cond
    first | refine WP.condP rfl (fun h2 => ?_) (fun h2 => ?_) | refine WP.condN rfl (fun h2 => ?_) (fun h2 => ?_) | refine WP.cond rfl (fun h2 => ?_) (fun h2 => ?_)
    · skip
      refine WP.seq <| WP.region <| v0 (S0.move rfl) rfl <| v0 (S0.assign rfl) rfl <| vE <| WP.ret <| ?_  -- ret
      refine Leaves.drop (take1 (atS at0) (take1 at0 take0)) ?_
      refine r1 rfl rfl ⟨?_, rfl⟩
      rw [idxP_at hno hx h2]
    · skip
      refine WP.skip <| WP.region <| v0 (S0.ari rfl rfl rfl (wrap_i64 (by omega))) rfl <| v0 (S0.move rfl) rfl <| vE <| ?_  -- roundend
      exact ⟨i + 1, (by first | exact ⟨hlt, below_succ (p := fun y => p y = false) hno hx h2⟩ | (dsimp only; exact ⟨hlt, below_succ (p := fun y => p y = false) hno hx h2⟩)), (by omega), ⟨⟨rfl, rfl, rfl, rfl, trivial⟩, rfl, rfl⟩, ⟨_, (take1 (atS at0) (take1 at0 take0))⟩⟩
  · skip
    refine WP.exit <| WP.seq <| WP.region <| v0 (S0.assign rfl) rfl <| vE <| WP.ret <| ?_  -- ret
    refine r1 rfl rfl ⟨?_, rfl⟩
    rw [idxP_none fun j y hj => hno j y (by omega)]
theorem anyFuncS {g : Nat} {caps : List Value} {cm : List Blk} {p : Str → Bool} {l : List Str} {v : Value} {row : List Blk} (hs : IsSl 9 1 v (strs l) row) (hl : l.length ≤ 1000000) (hc : ∀ x ∈ l, FN Tryz.prog g (sv x :: caps) [cm] (is (.bool (p x)) [cm])) :
    FN Tryz.prog 87 [v, .func (.func g) ⟨[]⟩ ⟨caps⟩] [row, cm] (is (.bool (l.any p)) [row, cm]) := by
  obtain ⟨a, cap, rfl, hcap, hrow⟩ := hs.strsE
  refine FN.intro 9 [(0, .slice a l.length cap), (1, .func (.func g) ⟨[]⟩ ⟨caps⟩)] Tryz.func87 rfl (enters Tryz.func87 (by kernel_rfl) rfl) Tryz.ntmps87 rfl rfl ?_
  refine WP.seq <| WP.region <| v0 (S0.assign rfl) rfl <| vE <| WP.seq <| WP.region <| v0 (S0.move rfl) rfl <| v0 (S0.move rfl) rfl <| ?_  -- op t7 := call F79{slices.IndexFunc[[]string,string]}(t5, t6)
  refine vcd (S1.callF rfl (idxFuncS hs hl hc) (take1 at0 (take1 at0 take0))) rfl ?_
  refine v0 (S0.cmp rfl rfl rfl) rfl <| v0 (S0.assign rfl) rfl <| vE <| WP.ret <| ?_  -- ret
  refine r1 rfl rfl ⟨?_, rfl⟩
  rw [idxP_any]

/-! names -/
theorem okN_iff {n : Int} : okN n = true ↔ (((97 ≤ n ∧ n ≤ 122) ∨ (48 ≤ n ∧ n ≤ 57)) ∨ n = 45) ∨ n = 95 := by
  simp only [okN, Bool.or_eq_true, Bool.and_eq_true, decide_eq_true_eq]
theorem letter_spec (n : Int) : FN Tryz.prog 101 [.int .i32 n] [] (is (.bool (okN n)) []) := by
  refine FN.intro 25 [(0, .int .i32 n)] Tryz.func101 rfl (enters Tryz.func101 (by kernel_rfl) rfl) Tryz.ntmps101 rfl rfl ?_
  refine WP.seq <| WP.region <| v0 (S0.assign rfl) rfl <| vE <| WP.seq <| WP.region <| v0 (S0.move rfl) rfl <| v0 (S0.cmp rfl rfl rfl) rfl <| v0 (S0.move rfl) rfl <| ?_
  first | refine csP (t := 5) rfl (fun hq0 => ?_) (fun hq0 => ?_) | refine csN (t := 5) rfl (fun hq0 => ?_) (fun hq0 => ?_) | refine cs (t := 5) rfl (fun hq0 => ?_) (fun hq0 => ?_)
  ·
    refine gT rfl <| v0 (S0.move rfl) rfl <| gT rfl <| v0 (S0.cmp rfl rfl rfl) rfl <| v0 (S0.pickT rfl rfl) rfl <| v0 (S0.move rfl) rfl <| ?_
    first | refine csP (t := 9) rfl (fun hq1 => ?_) (fun hq1 => ?_) | refine csN (t := 9) rfl (fun hq1 => ?_) (fun hq1 => ?_) | refine cs (t := 9) rfl (fun hq1 => ?_) (fun hq1 => ?_)
    ·
      refine gF rfl rfl <| gF rfl rfl <| gF rfl rfl <| gF rfl rfl <| gF rfl rfl <| gF rfl rfl <| v0 (S0.pickT rfl rfl) rfl <| v0 (S0.move rfl) rfl <| gF rfl rfl <| gF rfl rfl <| v0 (S0.pickT rfl rfl) rfl <| v0 (S0.move rfl) rfl <| gF rfl rfl <| gF rfl rfl <| v0 (S0.pickT rfl rfl) rfl <| v0 (S0.assign rfl) rfl <| vE <| WP.ret <| ?_
      refine r1 rfl rfl ⟨?_, rfl⟩
      exact congrArg Value.bool (Bool.eq_iff_iff.2 (by simp only [okN_iff, decide_eq_true_eq, true_iff, Bool.false_eq_true, false_iff]; omega))
    ·
      refine gT rfl <| v0 (S0.move rfl) rfl <| gT rfl <| v0 (S0.cmp rfl rfl rfl) rfl <| gT rfl <| v0 (S0.move rfl) rfl <| ?_
      first | refine csP (t := 12) rfl (fun hq2 => ?_) (fun hq2 => ?_) | refine csN (t := 12) rfl (fun hq2 => ?_) (fun hq2 => ?_) | refine cs (t := 12) rfl (fun hq2 => ?_) (fun hq2 => ?_)
      ·
        refine gT rfl <| v0 (S0.move rfl) rfl <| gT rfl <| v0 (S0.cmp rfl rfl rfl) rfl <| gT rfl <| v0 (S0.pickT rfl rfl) rfl <| v0 (S0.pickF rfl rfl) rfl <| v0 (S0.move rfl) rfl <| ?_
        first | refine csP (t := 17) rfl (fun hq3 => ?_) (fun hq3 => ?_) | refine csN (t := 17) rfl (fun hq3 => ?_) (fun hq3 => ?_) | refine cs (t := 17) rfl (fun hq3 => ?_) (fun hq3 => ?_)
        ·
          refine gF rfl rfl <| gF rfl rfl <| v0 (S0.pickT rfl rfl) rfl <| v0 (S0.move rfl) rfl <| gF rfl rfl <| gF rfl rfl <| v0 (S0.pickT rfl rfl) rfl <| v0 (S0.assign rfl) rfl <| vE <| WP.ret <| ?_
          refine r1 rfl rfl ⟨?_, rfl⟩
          exact congrArg Value.bool (Bool.eq_iff_iff.2 (by simp only [okN_iff, decide_eq_true_eq, true_iff, Bool.false_eq_true, false_iff]; omega))
        ·
          refine gT rfl <| v0 (S0.move rfl) rfl <| gT rfl <| v0 (S0.cmp rfl rfl rfl) rfl <| v0 (S0.pickF rfl rfl) rfl <| v0 (S0.move rfl) rfl <| ?_
          first | refine csP (t := 21) rfl (fun hq4 => ?_) (fun hq4 => ?_) | refine csN (t := 21) rfl (fun hq4 => ?_) (fun hq4 => ?_) | refine cs (t := 21) rfl (fun hq4 => ?_) (fun hq4 => ?_)
          ·
            refine gF rfl rfl <| gF rfl rfl <| v0 (S0.pickT rfl rfl) rfl <| v0 (S0.assign rfl) rfl <| vE <| WP.ret <| ?_
            refine r1 rfl rfl ⟨?_, rfl⟩
            exact congrArg Value.bool (Bool.eq_iff_iff.2 (by simp only [okN_iff, decide_eq_true_eq, true_iff, Bool.false_eq_true, false_iff]; omega))
          ·
            refine gT rfl <| v0 (S0.move rfl) rfl <| gT rfl <| v0 (S0.cmp rfl rfl rfl) rfl <| v0 (S0.pickF rfl rfl) rfl <| v0 (S0.assign rfl) rfl <| vE <| WP.ret <| ?_
            refine r1 rfl rfl ⟨?_, rfl⟩
            exact congrArg Value.bool (Bool.eq_iff_iff.2 (by simp only [okN_iff, decide_eq_true_eq, true_iff, Bool.false_eq_true, false_iff]; omega))
      ·
        refine gF rfl rfl <| gF rfl rfl <| gT rfl <| v0 (S0.pickF rfl rfl) rfl <| v0 (S0.pickF rfl rfl) rfl <| v0 (S0.move rfl) rfl <| gT rfl <| v0 (S0.move rfl) rfl <| gT rfl <| v0 (S0.cmp rfl rfl rfl) rfl <| v0 (S0.pickF rfl rfl) rfl <| v0 (S0.move rfl) rfl <| ?_
        first | refine csP (t := 21) rfl (fun hq3 => ?_) (fun hq3 => ?_) | refine csN (t := 21) rfl (fun hq3 => ?_) (fun hq3 => ?_) | refine cs (t := 21) rfl (fun hq3 => ?_) (fun hq3 => ?_)
        ·
          refine gF rfl rfl <| gF rfl rfl <| v0 (S0.pickT rfl rfl) rfl <| v0 (S0.assign rfl) rfl <| vE <| WP.ret <| ?_
          refine r1 rfl rfl ⟨?_, rfl⟩
          exact congrArg Value.bool (Bool.eq_iff_iff.2 (by simp only [okN_iff, decide_eq_true_eq, true_iff, Bool.false_eq_true, false_iff]; omega))
        ·
          refine gT rfl <| v0 (S0.move rfl) rfl <| gT rfl <| v0 (S0.cmp rfl rfl rfl) rfl <| v0 (S0.pickF rfl rfl) rfl <| v0 (S0.assign rfl) rfl <| vE <| WP.ret <| ?_
          refine r1 rfl rfl ⟨?_, rfl⟩
          exact congrArg Value.bool (Bool.eq_iff_iff.2 (by simp only [okN_iff, decide_eq_true_eq, true_iff, Bool.false_eq_true, false_iff]; omega))
  ·
    refine gF rfl rfl <| gF rfl rfl <| v0 (S0.pickF rfl rfl) rfl <| v0 (S0.move rfl) rfl <| gT rfl <| v0 (S0.move rfl) rfl <| gT rfl <| v0 (S0.cmp rfl rfl rfl) rfl <| gT rfl <| v0 (S0.move rfl) rfl <| ?_
    first | refine csP (t := 12) rfl (fun hq1 => ?_) (fun hq1 => ?_) | refine csN (t := 12) rfl (fun hq1 => ?_) (fun hq1 => ?_) | refine cs (t := 12) rfl (fun hq1 => ?_) (fun hq1 => ?_)
    ·
      refine gT rfl <| v0 (S0.move rfl) rfl <| gT rfl <| v0 (S0.cmp rfl rfl rfl) rfl <| gT rfl <| v0 (S0.pickT rfl rfl) rfl <| v0 (S0.pickF rfl rfl) rfl <| v0 (S0.move rfl) rfl <| ?_
      first | refine csP (t := 17) rfl (fun hq2 => ?_) (fun hq2 => ?_) | refine csN (t := 17) rfl (fun hq2 => ?_) (fun hq2 => ?_) | refine cs (t := 17) rfl (fun hq2 => ?_) (fun hq2 => ?_)
      ·
        refine gF rfl rfl <| gF rfl rfl <| v0 (S0.pickT rfl rfl) rfl <| v0 (S0.move rfl) rfl <| gF rfl rfl <| gF rfl rfl <| v0 (S0.pickT rfl rfl) rfl <| v0 (S0.assign rfl) rfl <| vE <| WP.ret <| ?_
        refine r1 rfl rfl ⟨?_, rfl⟩
        exact congrArg Value.bool (Bool.eq_iff_iff.2 (by simp only [okN_iff, decide_eq_true_eq, true_iff, Bool.false_eq_true, false_iff]; omega))
      ·
        refine gT rfl <| v0 (S0.move rfl) rfl <| gT rfl <| v0 (S0.cmp rfl rfl rfl) rfl <| v0 (S0.pickF rfl rfl) rfl <| v0 (S0.move rfl) rfl <| ?_
        first | refine csP (t := 21) rfl (fun hq3 => ?_) (fun hq3 => ?_) | refine csN (t := 21) rfl (fun hq3 => ?_) (fun hq3 => ?_) | refine cs (t := 21) rfl (fun hq3 => ?_) (fun hq3 => ?_)
        ·
          refine gF rfl rfl <| gF rfl rfl <| v0 (S0.pickT rfl rfl) rfl <| v0 (S0.assign rfl) rfl <| vE <| WP.ret <| ?_
          refine r1 rfl rfl ⟨?_, rfl⟩
          exact congrArg Value.bool (Bool.eq_iff_iff.2 (by simp only [okN_iff, decide_eq_true_eq, true_iff, Bool.false_eq_true, false_iff]; omega))
        ·
          refine gT rfl <| v0 (S0.move rfl) rfl <| gT rfl <| v0 (S0.cmp rfl rfl rfl) rfl <| v0 (S0.pickF rfl rfl) rfl <| v0 (S0.assign rfl) rfl <| vE <| WP.ret <| ?_
          refine r1 rfl rfl ⟨?_, rfl⟩
          exact congrArg Value.bool (Bool.eq_iff_iff.2 (by simp only [okN_iff, decide_eq_true_eq, true_iff, Bool.false_eq_true, false_iff]; omega))
    ·
      refine gF rfl rfl <| gF rfl rfl <| gT rfl <| v0 (S0.pickF rfl rfl) rfl <| v0 (S0.pickF rfl rfl) rfl <| v0 (S0.move rfl) rfl <| gT rfl <| v0 (S0.move rfl) rfl <| gT rfl <| v0 (S0.cmp rfl rfl rfl) rfl <| v0 (S0.pickF rfl rfl) rfl <| v0 (S0.move rfl) rfl <| ?_
      first | refine csP (t := 21) rfl (fun hq2 => ?_) (fun hq2 => ?_) | refine csN (t := 21) rfl (fun hq2 => ?_) (fun hq2 => ?_) | refine cs (t := 21) rfl (fun hq2 => ?_) (fun hq2 => ?_)
      ·
        refine gF rfl rfl <| gF rfl rfl <| v0 (S0.pickT rfl rfl) rfl <| v0 (S0.assign rfl) rfl <| vE <| WP.ret <| ?_
        refine r1 rfl rfl ⟨?_, rfl⟩
        exact congrArg Value.bool (Bool.eq_iff_iff.2 (by simp only [okN_iff, decide_eq_true_eq, true_iff, Bool.false_eq_true, false_iff]; omega))
      ·
        refine gT rfl <| v0 (S0.move rfl) rfl <| gT rfl <| v0 (S0.cmp rfl rfl rfl) rfl <| v0 (S0.pickF rfl rfl) rfl <| v0 (S0.assign rfl) rfl <| vE <| WP.ret <| ?_
        refine r1 rfl rfl ⟨?_, rfl⟩
        exact congrArg Value.bool (Bool.eq_iff_iff.2 (by simp only [okN_iff, decide_eq_true_eq, true_iff, Bool.false_eq_true, false_iff]; omega))
theorem all_take_succ {s : Str} {q : UInt8 → Bool} {i : Nat} {c : UInt8} (h : (s.take i).all q = true) (hx : s[i]? = some c) (hc : q c = true) : (s.take (i + 1)).all q = true := by
  rw [List.take_add_one, hx, List.all_append, h]; simp [hc]
theorem not_all {s : Str} {q : UInt8 → Bool} {i : Nat} {c : UInt8} (hx : s[i]? = some c) (hc : q c = false) : s.all q = false := by
  rw [List.all_eq_false]
  obtain ⟨hlt, e⟩ := List.getElem?_eq_some_iff.1 hx
  exact ⟨c, by rw [← e]; exact List.getElem_mem hlt, by simp [hc]⟩
theorem name_spec (s : Str) : FN Tryz.prog 89 [sv s] [] (is (.bool (nameS s)) []) := by
  refine FN.intro 22 [(0, sv s)] Tryz.func89 rfl (enters Tryz.func89 (by kernel_rfl) rfl) Tryz.ntmps89 rfl rfl ?_
  refine WP.seq <| WP.region <| v0 (S0.assign rfl) rfl <| vE <| WP.seq <| WP.region <| v0 (S0.assign rfl) rfl <| vE <| WP.seq <| WP.seq <| WP.region <| v0 (S0.move rfl) rfl <| ?_  -- op t7 := range 9 t6
  refine vn (S1.rangeSt rfl) rfl fun b7 => ?_
  refine vE <| WP.block <| ?_  -- Code.loop
  refine WP.loop (fun i : Nat => i ≤ s.length ∧ (s.take i).all (fun c => okN c.toNat) = true) (fun i : Nat => [(0, sv s), (3, .func (.func 101) ⟨[]⟩ ⟨[]⟩), (7, .pointer (some ⟨b7, 0, none⟩))]) (fun i : Nat => [[(b7, .stringIter ⟨⟨s⟩⟩ i)]]) (fun i : Nat => s.length - i) (0) (⟨by omega, by simp⟩) ⟨rfl, rfl, rfl, trivial⟩ ⟨_, (take1 at0 take0)⟩ (fun i hinv => ?_) 
  obtain ⟨hi, hall⟩ := hinv
  refine WP.seq <| WP.region <| ?_  -- op t8 := next t7 true
  skip
  by_cases hlt : i < s.length
  · skip
    have hx : s[i]? = some s[i] := by simp [hlt]
    refine v1 (S1.nextSt rfl hlt) rfl <| ?_
    refine v0 (S0.extract rfl rfl) rfl <| vE <| WP.seq <| ?_  -- cond
    refine WP.condTh rfl (rfl) ?_
    skip
    by_cases hc : s[i].toNat < 128
    · skip
      rw [decode_ascii hx hc]
      refine WP.skip <| WP.block <| WP.seq <| WP.region <| v0 (S0.extract rfl rfl) rfl <| v0 (S0.assign rfl) rfl <| vE <| WP.seq <| WP.region <| v0 (S0.move rfl) rfl <| v0 (S0.move rfl) rfl <| ?_  -- op t13 := call t11(t12)
      refine vcd (S1.callC rfl rfl rfl (letter_spec s[i].toNat) take0) rfl ?_
      refine v0 (S0.not rfl) rfl <| vE <| ?_  -- cond
      first | refine WP.condP rfl (fun hok => ?_) (fun hok => ?_) | refine WP.condN rfl (fun hok => ?_) (fun hok => ?_) | refine WP.cond rfl (fun hok => ?_) (fun hok => ?_)
      · skip
        refine WP.seq <| WP.region <| v0 (S0.assign rfl) rfl <| vE <| WP.ret <| ?_  -- ret
        refine Leaves.drop take0 ?_
        refine r1 rfl rfl ⟨?_, rfl⟩
        have : s.all (fun c => okN c.toNat) = false := not_all hx (by simpa using hok)
        simp [nameS, this]
      · skip
        refine WP.skip <| ?_  -- roundend
        exact ⟨i + 1, (by first | exact ⟨hlt, all_take_succ hall hx (by simpa using hok)⟩ | (dsimp only; exact ⟨hlt, all_take_succ hall hx (by simpa using hok)⟩)), (by omega), ⟨⟨rfl, rfl, rfl, trivial⟩, rfl, rfl⟩, ⟨_, (take1 at0 take0)⟩⟩
    · skip
      obtain ⟨hd, -⟩ := decode_other hx hc
      refine WP.skip <| WP.block <| WP.seq <| WP.region <| v0 (S0.extract rfl rfl) rfl <| v0 (S0.assign rfl) rfl <| vE <| WP.seq <| WP.region <| v0 (S0.move rfl) rfl <| v0 (S0.move rfl) rfl <| ?_  -- op t13 := call t11(t12)
      refine vcd (S1.callC rfl rfl rfl (letter_spec ((Utf8.decode ⟨⟨s⟩⟩ i).1 : Int)) take0) rfl ?_
      rw [okN_ge (by omega)]
      refine v0 (S0.not rfl) rfl <| vE <| ?_  -- cond
      refine WP.condTh rfl (rfl) ?_
      refine WP.seq <| WP.region <| v0 (S0.assign rfl) rfl <| vE <| WP.ret <| ?_  -- ret
      refine Leaves.drop take0 ?_
      refine r1 rfl rfl ⟨?_, rfl⟩
      have : s.all (fun c => okN c.toNat) = false := not_all hx (okN_ge (by omega))
      simp [nameS, this]
  · skip
    refine v1 (S1.nextStEnd rfl hlt) rfl <| ?_
    refine v0 (S0.extract rfl rfl) rfl <| vE <| WP.seq <| ?_  -- cond
    refine WP.condFh rfl (rfl) ?_
    rw [List.take_of_length_le (by omega)] at hall
    refine WP.exit <| WP.seq <| WP.region <| v0 (S0.move rfl) rfl <| v0 (S0.cmpS rfl rfl rfl) rfl <| v0 (S0.move rfl) rfl <| ?_
    first | refine csP (t := 17) rfl (fun hq0 => ?_) (fun hq0 => ?_) | refine csN (t := 17) rfl (fun hq0 => ?_) (fun hq0 => ?_) | refine cs (t := 17) rfl (fun hq0 => ?_) (fun hq0 => ?_)
    ·
      refine gT rfl <| v0 (S0.move rfl) rfl <| gT rfl <| v0 (S0.lenSt rfl) rfl <| gT rfl <| v0 (S0.cmp rfl rfl rfl) rfl <| v0 (S0.pickT rfl rfl) rfl <| v0 (S0.assign rfl) rfl <| vE <| WP.ret <| ?_
      refine Leaves.drop take0 ?_
      refine r1 rfl rfl ⟨?_, rfl⟩
      exact congrArg Value.bool (by simp [nameS, hall, *] <;> omega)
    ·
      refine gF rfl rfl <| gF rfl rfl <| gF rfl rfl <| v0 (S0.pickF rfl rfl) rfl <| v0 (S0.assign rfl) rfl <| vE <| WP.ret <| ?_
      refine Leaves.drop take0 ?_
      refine r1 rfl rfl ⟨?_, rfl⟩
      exact congrArg Value.bool (by simp [nameS, hall, *] <;> omega)
theorem rightfn_spec (s : Str) : FN Tryz.prog 88 [sv s] [] (is (.bool (!nameS s)) []) := by
  refine FN.intro 6 [(0, sv s)] Tryz.func88 rfl (enters Tryz.func88 (by kernel_rfl) rfl) Tryz.ntmps88 rfl rfl ?_
  refine WP.seq <| WP.region <| v0 (S0.assign rfl) rfl <| vE <| WP.seq <| WP.region <| v0 (S0.move rfl) rfl <| ?_  -- op t4 := call F89{rivulet/topic.name}(t3)
  refine vcd (S1.callF rfl (name_spec s) take0) rfl ?_
  refine v0 (S0.not rfl) rfl <| v0 (S0.assign rfl) rfl <| vE <| WP.ret <| ?_  -- ret
  refine r1 rfl rfl ?_
  exact ⟨rfl, rfl⟩
theorem any_not (l : List Str) : (!l.any fun x => !nameS x) = l.all nameS := by
  induction l with
  | nil => rfl
  | cons x l ih => simp only [List.any_cons, List.all_cons, Bool.not_or, Bool.not_not, ih]
theorem right_spec {s : Str} (hl : s.length ≤ 1000000) : FN Tryz.prog 60 [sv s] [] (is (.bool (rightS s)) []) := by
  have hll := levels_len s
  refine FN.intro 14 [(0, sv s)] Tryz.func60 rfl (enters Tryz.func60 (by kernel_rfl) rfl) Tryz.ntmps60 rfl rfl ?_
  refine WP.seq <| WP.region <| v0 (S0.assign rfl) rfl <| vE <| WP.seq <| WP.region <| v0 (S0.move rfl) rfl <| ?_  -- op t5 := call F62{rivulet/topic.Levels}(t4)
  refine vc (S1.callF rfl (levels_spec hl) take0) rfl ?_
  rintro _ _ ⟨row, hsl, rfl⟩
  refine app ?_
  obtain ⟨a, cap, rfl, -, -⟩ := hsl.strsE
  refine v0 (S0.assign rfl) rfl <| vE <| WP.seq <| WP.region <| v0 (S0.move rfl) rfl <| v0 (S0.lenSl rfl) rfl <| v0 (S0.cmp rfl rfl rfl) rfl <| v0 (S0.move rfl) rfl <| ?_  -- guard t9 (wants True) at t10 := move t3 [if #3=True]
  first | refine csP (t := 9) rfl (fun h8 => ?_) (fun h8 => ?_) | refine csN (t := 9) rfl (fun h8 => ?_) (fun h8 => ?_) | refine cs (t := 9) rfl (fun h8 => ?_) (fun h8 => ?_)
  · skip
    refine gT rfl <| v0 (S0.move rfl) rfl <| ?_  -- op t11 := call F87{slices.ContainsFunc[[]string,string]}(t10, F88) [if #3=True]
    refine gT rfl <| vcd (S1.callF rfl (FN.nil1 (anyFuncS hsl (by omega) fun x _ => FN.nil0 (rightfn_spec x))) (take1 at0 take0)) rfl ?_
    refine gT rfl <| v0 (S0.not rfl) rfl <| v0 (S0.pickT rfl rfl) rfl <| v0 (S0.assign rfl) rfl <| vE <| WP.ret <| ?_  -- ret
    refine Leaves.drop take0 ?_
    refine r1 rfl rfl ⟨?_, rfl⟩
    have h8' : (levels s).length ≤ 8 := by omega
    rw [any_not]
    simp [rightS, h8']
  · skip
    refine gF rfl rfl <| gF rfl rfl <| gF rfl rfl <| v0 (S0.pickF rfl rfl) rfl <| v0 (S0.assign rfl) rfl <| vE <| WP.ret <| ?_  -- ret
    refine Leaves.drop take0 ?_
    refine r1 rfl rfl ⟨?_, rfl⟩
    have h8' : ¬ (levels s).length ≤ 8 := by omega
    simp [rightS, h8']
theorem filter_spec {s : Str} (hl : s.length ≤ 1000000) : FN Tryz.prog 75 [sv s] [] (is (.bool (filtS s)) []) := by
  have hll := levels_len s
  refine FN.intro 40 [(0, sv s)] Tryz.func75 rfl (enters Tryz.func75 (by kernel_rfl) rfl) Tryz.ntmps75 rfl rfl ?_
  refine WP.seq <| WP.region <| v0 (S0.assign rfl) rfl <| vE <| WP.seq <| WP.region <| v0 (S0.move rfl) rfl <| ?_  -- op t8 := call F62{rivulet/topic.Levels}(t7)
  refine vc (S1.callF rfl (levels_spec hl) take0) rfl ?_
  rintro _ _ ⟨row, hsl, rfl⟩
  refine app ?_
  obtain ⟨a, cap, rfl, -, hrow⟩ := hsl.strsE
  refine v0 (S0.assign rfl) rfl <| vE <| WP.seq <| WP.seq <| WP.region <| v0 (S0.move rfl) rfl <| v0 (S0.lenSl rfl) rfl <| v0 (S0.cmp rfl rfl rfl) rfl <| vE <| ?_  -- cond
  first | refine WP.condP rfl (fun h8 => ?_) (fun h8 => ?_) | refine WP.condN rfl (fun h8 => ?_) (fun h8 => ?_) | refine WP.cond rfl (fun h8 => ?_) (fun h8 => ?_)
  · skip
    refine WP.seq <| WP.region <| v0 (S0.assign rfl) rfl <| vE <| WP.ret <| ?_  -- ret
    refine Leaves.drop take0 ?_
    refine r1 rfl rfl ⟨?_, rfl⟩
    have h8' : ¬ (levels s).length ≤ 8 := by omega
    simp [filtS, h8']
  · skip
    have h8' : (levels s).length ≤ 8 := by omega
    refine WP.skip <| WP.seq <| WP.seq <| WP.region <| v0 (S0.move rfl) rfl <| v0 (S0.lenSl rfl) rfl <| v0 (S0.move rfl) rfl <| vE <| WP.block <| ?_  -- Code.loop
    refine WP.loop (fun i : Nat => i ≤ (levels s).length ∧ ∀ j y, j < i → (levels s)[j]? = some y → badAt (levels s) j y = false) (fun i : Nat => [(0, sv s), (3, .slice a (levels s).length cap), (12, .slice a (levels s).length cap), (13, .int .i64 ((levels s).length : Int)), (14, .int .i64 (i : Int))]) (fun i : Nat => [row]) (fun i : Nat => (levels s).length - i) (0) (⟨by omega, fun j y hj => by omega⟩) ⟨rfl, rfl, rfl, rfl, rfl, trivial⟩ ⟨_, (take1 at0 take0)⟩ (fun i hinv => ?_) 
    obtain ⟨hi, hno⟩ := hinv
    refine WP.seq <| WP.region <| v0 (S0.cmp rfl rfl rfl) rfl <| vE <| WP.seq <| ?_  -- cond
    first | refine WP.condP rfl (fun h1 => ?_) (fun h1 => ?_) | refine WP.condN rfl (fun h1 => ?_) (fun h1 => ?_) | refine WP.cond rfl (fun h1 => ?_) (fun h1 => ?_)
    · skip
      have hlt : i < (levels s).length := by omega
      rcases hrow with ⟨e, -⟩ | ⟨b1, sp1, rfl, rfl, hsp1⟩
      · rw [e] at hlt; simp at hlt
      have hx : (levels s)[i]? = some (levels s)[i] := by simp [hlt]
      have hlast : ((i : Int) = ((levels s).length : Int) - 1) ↔ i + 1 = (levels s).length := by omega
      have hb : badAt (levels s) i (levels s)[i] = (!nameS (levels s)[i] && (!decide ((levels s)[i] = [43]) && (!decide ((levels s)[i] = [35]) || !decide ((i : Int) = ((levels s).length : Int) - 1)))) := by simp [badAt, hlast]
      clear hlast
      have hbad : badAt (levels s) i (levels s)[i] = true → false = filtS s := fun e => by
        have : ¬ filtL (levels s) = true := fun hf => by have := (filtL_iff _).1 hf i _ hx; rw [e] at this; cases this
        have : filtL (levels s) = false := by simpa using this
        simp [filtS, this]
      refine WP.skip <| WP.seq <| WP.block <| WP.seq <| WP.region <| v0 (S0.move rfl) rfl <| ?_  -- op t17 := indexAddr 23 t12 t14
      refine v0 (S0.index1 rfl rfl hlt) rfl <| ?_
      refine v0 (S0.load rfl (strs_get hx)) rfl <| ?_
      refine v0 (S0.assign rfl) rfl <| v0 (S0.assign rfl) rfl <| vE <| WP.seq <| WP.region <| v0 (S0.move rfl) rfl <| v0 (S0.move rfl) rfl <| v0 (S0.lenSl rfl) rfl <| v0 (S0.ari rfl rfl rfl (wrap_i64 (by omega))) rfl <| v0 (S0.cmp rfl rfl rfl) rfl <| v0 (S0.assign rfl) rfl <| vE <| WP.seq <| WP.region <| v0 (S0.move rfl) rfl <| ?_  -- op t25 := call F89{rivulet/topic.name}(t24)
      refine vcd (S1.callF rfl (name_spec (levels s)[i]) take0) rfl ?_
      refine v0 (S0.not rfl) rfl <| v0 (S0.move rfl) rfl <| ?_
      first | refine csP (t := 27) rfl (fun hq0 => ?_) (fun hq0 => ?_) | refine csN (t := 27) rfl (fun hq0 => ?_) (fun hq0 => ?_) | refine cs (t := 27) rfl (fun hq0 => ?_) (fun hq0 => ?_)
      ·
        refine gT rfl <| v0 (S0.move rfl) rfl <| gT rfl <| v0 (S0.cmpS rfl rfl rfl) rfl <| v0 (S0.pickT rfl rfl) rfl <| v0 (S0.move rfl) rfl <| ?_
        first | refine csP (t := 31) rfl (fun hq1 => ?_) (fun hq1 => ?_) | refine csN (t := 31) rfl (fun hq1 => ?_) (fun hq1 => ?_) | refine cs (t := 31) rfl (fun hq1 => ?_) (fun hq1 => ?_)
        ·
          refine gT rfl <| v0 (S0.move rfl) rfl <| gT rfl <| v0 (S0.cmpS rfl rfl rfl) rfl <| gT rfl <| v0 (S0.move rfl) rfl <| ?_
          first | refine csP (t := 34) rfl (fun hq2 => ?_) (fun hq2 => ?_) | refine csN (t := 34) rfl (fun hq2 => ?_) (fun hq2 => ?_) | refine cs (t := 34) rfl (fun hq2 => ?_) (fun hq2 => ?_)
          ·
            refine gF rfl rfl <| gF rfl rfl <| gT rfl <| v0 (S0.pickT rfl rfl) rfl <| v0 (S0.pickT rfl rfl) rfl <| vE <| WP.condT rfl <| WP.seq <| WP.region <| v0 (S0.assign rfl) rfl <| vE <| WP.ret <| ?_
            refine Leaves.drop take0 ?_
            refine r1 rfl rfl ⟨?_, rfl⟩
            exact congrArg Value.bool (hbad (by rw [hb]; simp [not_name_rest, not_name_one, *]))
          ·
            refine gT rfl <| v0 (S0.move rfl) rfl <| gT rfl <| v0 (S0.not rfl) rfl <| gT rfl <| v0 (S0.pickF rfl rfl) rfl <| v0 (S0.pickT rfl rfl) rfl <| vE <| ?_
            first | refine WP.condP rfl (fun hq3 => ?_) (fun hq3 => ?_) | refine WP.condN rfl (fun hq3 => ?_) (fun hq3 => ?_) | refine WP.cond rfl (fun hq3 => ?_) (fun hq3 => ?_)
            ·
              refine WP.seq <| WP.region <| v0 (S0.assign rfl) rfl <| vE <| WP.ret <| ?_
              refine Leaves.drop take0 ?_
              refine r1 rfl rfl ⟨?_, rfl⟩
              exact congrArg Value.bool (hbad (by rw [hb]; simp [not_name_rest, not_name_one, *]))
            ·
              refine WP.skip <| WP.region <| v0 (S0.ari rfl rfl rfl (wrap_i64 (by omega))) rfl <| v0 (S0.move rfl) rfl <| vE <| ?_
              exact ⟨i + 1, (by first | exact ⟨hlt, below_at (p := fun j y => badAt (levels s) j y = false) hno hx (by show badAt (levels s) i (levels s)[i] = false; rw [hb]; simp [not_name_rest, not_name_one, *])⟩ | (dsimp only; exact ⟨hlt, below_at (p := fun j y => badAt (levels s) j y = false) hno hx (by show badAt (levels s) i (levels s)[i] = false; rw [hb]; simp [not_name_rest, not_name_one, *])⟩)), (by omega), ⟨⟨rfl, rfl, rfl, rfl, rfl, trivial⟩, rfl, rfl⟩, ⟨_, (take1 at0 take0)⟩⟩
        ·
          refine gF rfl rfl <| gF rfl rfl <| gF rfl rfl <| gF rfl rfl <| gF rfl rfl <| gF rfl rfl <| v0 (S0.pickF rfl rfl) rfl <| vE <| WP.condF rfl <| WP.skip <| WP.region <| v0 (S0.ari rfl rfl rfl (wrap_i64 (by omega))) rfl <| v0 (S0.move rfl) rfl <| vE <| ?_
          exact ⟨i + 1, (by first | exact ⟨hlt, below_at (p := fun j y => badAt (levels s) j y = false) hno hx (by show badAt (levels s) i (levels s)[i] = false; rw [hb]; simp [not_name_rest, not_name_one, *])⟩ | (dsimp only; exact ⟨hlt, below_at (p := fun j y => badAt (levels s) j y = false) hno hx (by show badAt (levels s) i (levels s)[i] = false; rw [hb]; simp [not_name_rest, not_name_one, *])⟩)), (by omega), ⟨⟨rfl, rfl, rfl, rfl, rfl, trivial⟩, rfl, rfl⟩, ⟨_, (take1 at0 take0)⟩⟩
      ·
        refine gF rfl rfl <| gF rfl rfl <| v0 (S0.pickF rfl rfl) rfl <| v0 (S0.move rfl) rfl <| gF rfl rfl <| gF rfl rfl <| gF rfl rfl <| gF rfl rfl <| gF rfl rfl <| gF rfl rfl <| v0 (S0.pickF rfl rfl) rfl <| vE <| WP.condF rfl <| WP.skip <| WP.region <| v0 (S0.ari rfl rfl rfl (wrap_i64 (by omega))) rfl <| v0 (S0.move rfl) rfl <| vE <| ?_
        exact ⟨i + 1, (by first | exact ⟨hlt, below_at (p := fun j y => badAt (levels s) j y = false) hno hx (by show badAt (levels s) i (levels s)[i] = false; rw [hb]; simp [not_name_rest, not_name_one, *])⟩ | (dsimp only; exact ⟨hlt, below_at (p := fun j y => badAt (levels s) j y = false) hno hx (by show badAt (levels s) i (levels s)[i] = false; rw [hb]; simp [not_name_rest, not_name_one, *])⟩)), (by omega), ⟨⟨rfl, rfl, rfl, rfl, rfl, trivial⟩, rfl, rfl⟩, ⟨_, (take1 at0 take0)⟩⟩
    · skip
      refine WP.exit <| WP.seq <| WP.region <| v0 (S0.assign rfl) rfl <| vE <| WP.ret <| ?_  -- ret
      refine Leaves.drop take0 ?_
      refine r1 rfl rfl ⟨?_, rfl⟩
      have : filtL (levels s) = true := (filtL_iff _).2 fun j y hj => hno j y (by have := (List.getElem?_eq_some_iff.1 hj).1; omega) hj
      simp [filtS, h8', this]

theorem drop_cons {α : Type} {l : List α} {i : Nat} {x : α} (h : l[i]? = some x) : l.drop i = x :: l.drop (i + 1) := by
  obtain ⟨hlt, e⟩ := List.getElem?_eq_some_iff.1 h
  rw [List.drop_eq_getElem_cons hlt, e]
-- left out: match_spec (rivulet/topic.Match)






































































































end Go.Proofs.YtipljeomgdomnaaGreatDoor
/- Ref3 -/
namespace Go.Proofs.YtipljeomgdomnaaGreatDoor
open Go

theorem strs_cut (sp : List Value) (R : List Str) (i j cap : Nat) (hij : i ≤ j) (hj : j ≤ R.length) (hc : R.length ≤ cap) :
    ((strs R ++ sp).drop (if cap = i then 0 else 0 + i * 1)).take ((j - i) * 1) = strs ((R.drop i).take (j - i)) ∧ (if cap = i then 0 else 0 + i * 1) + (j - i) * 1 ≤ (strs R ++ sp).length := by
  have := flat_cut (k := 1) (en := fun x : Str => [sv x]) (fun _ => rfl) sp R i j cap hij hj hc
  rw [strs_flat, strs_flat]; exact this
theorem strs_cv (l : List Str) : ∀ v ∈ strs l, cellV v = true := by
  intro v hv
  obtain ⟨x, -, rfl⟩ := List.mem_map.1 hv
  rfl

theorem take_no {s : Str} {a i : Nat} {c : UInt8} (h : (47 : UInt8) ∉ (s.drop a).take (i - a)) (ha : a ≤ i) (hx : s[i]? = some c) (hc : c ≠ 47) : (47 : UInt8) ∉ (s.drop a).take (i + 1 - a) := by
  rw [show i + 1 - a = (i - a) + 1 from by omega, List.take_add_one]
  have e : (s.drop a)[i - a]? = some c := by rw [List.getElem?_drop, show a + (i - a) = i from by omega, hx]
  rw [e]
  simp only [Option.toList, List.mem_append, List.mem_singleton, not_or]
  exact ⟨h, fun e => hc e.symm⟩
theorem split_at {s : Str} {a i : Nat} {c : UInt8} (ha : a ≤ i) (hx : s[i]? = some c) : s.drop a = (s.drop a).take (i - a) ++ c :: s.drop (i + 1) := by
  have e : (s.drop a).drop (i - a) = c :: s.drop (i + 1) := by
    rw [List.drop_drop, show a + (i - a) = i from by omega, drop_cons hx]
  rw [← e, List.take_append_drop]

theorem rlevels_spec {s : Str} (hl : s.length ≤ 1000000) : FN Tryz.prog 44 [sv s] [] (fun v h => ∃ row, IsSl 9 1 v (strs (levels s)) row ∧ h = [row]) := by
  have hll := levels_len s
  refine FN.intro 33 [(0, sv s)] Tryz.func44 rfl (enters Tryz.func44 (by kernel_rfl) rfl) Tryz.ntmps44 rfl rfl ?_
  refine WP.seq <| WP.region <| v0 (S0.assign rfl) rfl <| vE <| WP.seq <| WP.region <| vnv (S1.buildSlice rfl (qs := []) rfl rfl) rfl fun b6 => v0 (S0.assign rfl) rfl <| v0 (S0.assign rfl) rfl <| vE <| WP.seq <| WP.seq <| WP.region <| v0 (S0.assign rfl) rfl <| vE <| WP.block <| ?_  -- Code.loop
  refine WP.loop (fun st : Nat × Nat × List Str × Value × List Blk => st.2.1 ≤ st.1 ∧ st.1 ≤ s.length ∧ levels s = st.2.2.1 ++ levels (s.drop st.2.1) ∧ (47 : UInt8) ∉ (s.drop st.2.1).take (st.1 - st.2.1) ∧ IsSl 9 1 st.2.2.2.1 (strs st.2.2.1) st.2.2.2.2) (fun st : Nat × Nat × List Str × Value × List Blk => [(0, sv s), (3, st.2.2.2.1), (4, .int .i64 (st.2.1 : Int)), (5, .int .i64 (st.1 : Int))]) (fun st : Nat × Nat × List Str × Value × List Blk => [st.2.2.2.2]) (fun st : Nat × Nat × List Str × Value × List Blk => s.length - st.1) ((0, 0, [], _, [(b6, .cells ⟨[]⟩ 9 (0, 0))])) (⟨Nat.le_refl _, Nat.zero_le _, by simp, by simp, IsSl.row (n := 0) (c := 0) (l := []) (sp := []) rfl rfl (Nat.le_refl _)⟩) ⟨rfl, rfl, rfl, rfl, trivial⟩ ⟨_, (take1 at0 take0)⟩ (fun st hinv => ?_) 
  obtain ⟨i, a, out, lv, row⟩ := st
  obtain ⟨hai, hi, hlev, hno, hsl⟩ := hinv
  dsimp only at hai hi hlev hno hsl ⊢
  have hol : out.length ≤ 1000000 := by
    have := congrArg List.length hlev
    have h2 := levels_ne (s.drop a)
    rw [List.length_append] at this
    have h3 : 0 < (levels (s.drop a)).length := List.length_pos_iff.2 h2
    omega
  refine WP.seq <| WP.seq <| WP.region <| v0 (S0.move rfl) rfl <| v0 (S0.move rfl) rfl <| v0 (S0.lenSt rfl) rfl <| v0 (S0.cmp rfl rfl rfl) rfl <| vE <| ?_  -- cond
  first | refine WP.condP rfl (fun h1 => ?_) (fun h1 => ?_) | refine WP.condN rfl (fun h1 => ?_) (fun h1 => ?_) | refine WP.cond rfl (fun h1 => ?_) (fun h1 => ?_)
  · skip
    have hlt : i < s.length := by omega
    have hx : s[i]? = some s[i] := by simp [hlt]
    generalize s[i] = c at hx
    refine WP.skip <| WP.seq <| WP.block <| WP.seq <| WP.region <| v0 (S0.move rfl) rfl <| v0 (S0.move rfl) rfl <| ?_  -- op t15 := index 9 t13 t14
    refine v0 (S0.indexSt rfl rfl hx) rfl <| ?_
    refine v0 (S0.cmp rfl rfl rfl) rfl <| vE <| ?_  -- cond
    first | refine WP.condP rfl (fun h2 => ?_) (fun h2 => ?_) | refine WP.condN rfl (fun h2 => ?_) (fun h2 => ?_) | refine WP.cond rfl (fun h2 => ?_) (fun h2 => ?_)
    · skip
      have hc : c = 47 := by
        have : c.toNat = 47 := by omega
        exact UInt8.toNat_inj.1 this
      subst hc
      refine WP.seq <| WP.region <| v0 (S0.move rfl) rfl <| v0 (S0.move rfl) rfl <| v0 (S0.move rfl) rfl <| v0 (S0.move rfl) rfl <| ?_  -- op t21 := slice 9 t18 t19 t20 none
      refine v0 (S0.sliceSt (i := a) (j := i) rfl rfl rfl ⟨hai, hi⟩) rfl <| ?_
      refine vnv (S1.buildSlice rfl (qs := [(0, _)]) rfl rfl) rfl fun b22 => ?_  -- op t23 := append(t17, t22) :[23, 23]
      refine ve (S1.appendL rfl hsl rfl rfl (atS at0) rfl rfl (by rw [strs_len]; simp; omega)) rfl ?_
      rintro v2 _ ⟨row2, hsl2, rfl⟩
      have hsl3 : IsSl 9 1 v2 (strs (out ++ [(s.drop a).take (i - a)])) row2 := by simpa [strs] using hsl2
      have hlev2 : levels s = (out ++ [(s.drop a).take (i - a)]) ++ levels (s.drop (i + 1)) := by
        have e1 : levels (s.drop a) = (s.drop a).take (i - a) :: levels (s.drop (i + 1)) := by
          conv => lhs; rw [split_at hai hx]
          exact levels_cut _ hno
        rw [hlev, e1]; simp
      refine v0 (S0.assign rfl) rfl <| vE <| WP.region <| v0 (S0.move rfl) rfl <| v0 (S0.ari rfl rfl rfl (wrap_i64 (by omega))) rfl <| v0 (S0.assign rfl) rfl <| vE <| WP.region <| v0 (S0.move rfl) rfl <| v0 (S0.ari rfl rfl rfl (wrap_i64 (by omega))) rfl <| v0 (S0.assign rfl) rfl <| vE <| ?_  -- roundend
      exact ⟨(i + 1, i + 1, out ++ [(s.drop a).take (i - a)], v2, row2), (by first | exact ⟨Nat.le_refl _, hlt, hlev2, by simp, hsl3⟩ | (dsimp only; exact ⟨Nat.le_refl _, hlt, hlev2, by simp, hsl3⟩)), (show s.length - (i + 1) < s.length - i by omega), ⟨⟨rfl, rfl, rfl, rfl, trivial⟩, rfl, rfl⟩, ⟨_, (take1 at0 take0)⟩⟩
    · skip
      refine WP.skip <| WP.region <| v0 (S0.move rfl) rfl <| v0 (S0.ari rfl rfl rfl (wrap_i64 (by omega))) rfl <| v0 (S0.assign rfl) rfl <| vE <| ?_  -- roundend
      have hc : c ≠ 47 := fun e => h2 (by rw [e]; rfl)
      exact ⟨(i + 1, a, out, lv, row), (by first | exact ⟨by omega, hlt, hlev, take_no hno hai hx hc, hsl⟩ | (dsimp only; exact ⟨by omega, hlt, hlev, take_no hno hai hx hc, hsl⟩)), (show s.length - (i + 1) < s.length - i by omega), ⟨⟨rfl, rfl, rfl, rfl, trivial⟩, rfl, rfl⟩, ⟨_, (take1 at0 take0)⟩⟩
  · skip
    have e : i = s.length := by omega
    subst e
    rw [List.take_of_length_le (by simp)] at hno
    rw [levels_none hno] at hlev
    refine WP.exit <| WP.seq <| WP.region <| v0 (S0.move rfl) rfl <| v0 (S0.move rfl) rfl <| v0 (S0.move rfl) rfl <| ?_  -- op t29 := slice 9 t27 t28 none none
    refine v0 (S0.sliceSt (i := a) (j := s.length) rfl rfl rfl ⟨hai, hi⟩) rfl <| ?_
    rw [List.take_of_length_le (show (s.drop a).length ≤ s.length - a by simp)]
    refine vnv (S1.buildSlice rfl (qs := [(0, _)]) rfl rfl) rfl fun b30 => ?_  -- op t31 := append(t26, t30) :[23, 23]
    refine ve (S1.appendL rfl hsl rfl rfl (atS at0) rfl rfl (by rw [strs_len]; simp; omega)) rfl ?_
    rintro v2 _ ⟨row2, hsl2, rfl⟩
    refine v0 (S0.assign rfl) rfl <| vE <| WP.seq <| WP.region <| v0 (S0.move rfl) rfl <| v0 (S0.assign rfl) rfl <| vE <| WP.ret <| ?_  -- ret
    refine Leaves.drop (take1 at0 take0) ?_
    refine r1 rfl rfl ?_
    refine ⟨row2, ?_, rfl⟩
    rw [hlev]
    simpa [strs] using hsl2

theorem rname_spec (s : Str) (hl : s.length ≤ 1000000) : FN Tryz.prog 45 [sv s] [] (is (.bool (nameS s)) []) := by
  refine FN.intro 45 [(0, sv s)] Tryz.func45 rfl (enters Tryz.func45 (by kernel_rfl) rfl) Tryz.ntmps45 rfl rfl ?_
  refine WP.seq <| WP.region <| v0 (S0.assign rfl) rfl <| vE <| WP.seq <| WP.seq <| WP.region <| v0 (S0.assign rfl) rfl <| vE <| WP.block <| ?_  -- Code.loop
  refine WP.loop (fun i : Nat => i ≤ s.length ∧ (s.take i).all (fun c => okN c.toNat) = true) (fun i : Nat => [(0, sv s), (3, .int .i64 (i : Int))]) (fun i : Nat => []) (fun i : Nat => s.length - i) (0) (⟨Nat.zero_le _, by simp⟩) ⟨rfl, rfl, trivial⟩ ⟨_, take0⟩ (fun i hinv => ?_) 
  obtain ⟨hi, hall⟩ := hinv
  refine WP.seq <| WP.seq <| WP.region <| v0 (S0.move rfl) rfl <| v0 (S0.move rfl) rfl <| v0 (S0.lenSt rfl) rfl <| v0 (S0.cmp rfl rfl rfl) rfl <| vE <| ?_  -- cond
  first | refine WP.condP rfl (fun h1 => ?_) (fun h1 => ?_) | refine WP.condN rfl (fun h1 => ?_) (fun h1 => ?_) | refine WP.cond rfl (fun h1 => ?_) (fun h1 => ?_)
  · skip
    have hlt : i < s.length := by omega
    have hx : s[i]? = some s[i] := by simp [hlt]
    generalize s[i] = c at hx
    have hbad : okN (c.toNat : Int) = false → false = nameS s := fun e => by simp [nameS, not_all (q := fun c => okN c.toNat) hx e]
    have hgood : okN (c.toNat : Int) = true → (s.take (i + 1)).all (fun c => okN c.toNat) = true := fun e => all_take_succ hall hx e
    have hb : okN (c.toNat : Int) = ((decide (97 ≤ (c.toNat : Int)) && decide ((c.toNat : Int) ≤ 122)) || (decide (48 ≤ (c.toNat : Int)) && decide ((c.toNat : Int) ≤ 57)) || decide ((c.toNat : Int) = 45) || decide ((c.toNat : Int) = 95)) := rfl
    refine WP.skip <| WP.seq <| WP.block <| WP.seq <| WP.region <| v0 (S0.move rfl) rfl <| v0 (S0.move rfl) rfl <| ?_  -- op t13 := index 9 t11 t12
    refine v0 (S0.indexSt rfl rfl hx) rfl <| ?_
    clear hall hx
    generalize (c.toNat : Int) = n at hbad hgood hb
    refine v0 (S0.assign rfl) rfl <| vE <| WP.seq <| WP.region <| v0 (S0.move rfl) rfl <| v0 (S0.cmp rfl rfl rfl) rfl <| v0 (S0.move rfl) rfl <| ?_
    first | refine csP (t := 16) rfl (fun hq0 => ?_) (fun hq0 => ?_) | refine csN (t := 16) rfl (fun hq0 => ?_) (fun hq0 => ?_) | refine cs (t := 16) rfl (fun hq0 => ?_) (fun hq0 => ?_)
    ·
      refine gT rfl <| v0 (S0.move rfl) rfl <| gT rfl <| v0 (S0.cmp rfl rfl rfl) rfl <| v0 (S0.pickT rfl rfl) rfl <| v0 (S0.move rfl) rfl <| ?_
      first | refine csP (t := 20) rfl (fun hq1 => ?_) (fun hq1 => ?_) | refine csN (t := 20) rfl (fun hq1 => ?_) (fun hq1 => ?_) | refine cs (t := 20) rfl (fun hq1 => ?_) (fun hq1 => ?_)
      ·
        refine gF rfl rfl <| gF rfl rfl <| gF rfl rfl <| gF rfl rfl <| gF rfl rfl <| gF rfl rfl <| v0 (S0.pickT rfl rfl) rfl <| v0 (S0.move rfl) rfl <| gF rfl rfl <| gF rfl rfl <| v0 (S0.pickT rfl rfl) rfl <| v0 (S0.move rfl) rfl <| gF rfl rfl <| gF rfl rfl <| v0 (S0.pickT rfl rfl) rfl <| v0 (S0.not rfl) rfl <| vE <| WP.condF rfl <| WP.skip <| WP.region <| v0 (S0.move rfl) rfl <| v0 (S0.ari rfl rfl rfl (wrap_i64 (by omega))) rfl <| v0 (S0.assign rfl) rfl <| vE <| ?_
        exact ⟨i + 1, (by first | exact ⟨hlt, hgood (by rw [hb]; simp [*]; try omega)⟩ | (dsimp only; exact ⟨hlt, hgood (by rw [hb]; simp [*]; try omega)⟩)), (by omega), ⟨⟨rfl, rfl, trivial⟩, rfl, rfl⟩, ⟨_, take0⟩⟩
      ·
        refine gT rfl <| v0 (S0.move rfl) rfl <| gT rfl <| v0 (S0.cmp rfl rfl rfl) rfl <| gT rfl <| v0 (S0.move rfl) rfl <| ?_
        first | refine csP (t := 23) rfl (fun hq2 => ?_) (fun hq2 => ?_) | refine csN (t := 23) rfl (fun hq2 => ?_) (fun hq2 => ?_) | refine cs (t := 23) rfl (fun hq2 => ?_) (fun hq2 => ?_)
        ·
          refine gT rfl <| v0 (S0.move rfl) rfl <| gT rfl <| v0 (S0.cmp rfl rfl rfl) rfl <| gT rfl <| v0 (S0.pickT rfl rfl) rfl <| v0 (S0.pickF rfl rfl) rfl <| v0 (S0.move rfl) rfl <| ?_
          first | refine csP (t := 28) rfl (fun hq3 => ?_) (fun hq3 => ?_) | refine csN (t := 28) rfl (fun hq3 => ?_) (fun hq3 => ?_) | refine cs (t := 28) rfl (fun hq3 => ?_) (fun hq3 => ?_)
          ·
            refine gF rfl rfl <| gF rfl rfl <| v0 (S0.pickT rfl rfl) rfl <| v0 (S0.move rfl) rfl <| gF rfl rfl <| gF rfl rfl <| v0 (S0.pickT rfl rfl) rfl <| v0 (S0.not rfl) rfl <| vE <| WP.condF rfl <| WP.skip <| WP.region <| v0 (S0.move rfl) rfl <| v0 (S0.ari rfl rfl rfl (wrap_i64 (by omega))) rfl <| v0 (S0.assign rfl) rfl <| vE <| ?_
            exact ⟨i + 1, (by first | exact ⟨hlt, hgood (by rw [hb]; simp [*]; try omega)⟩ | (dsimp only; exact ⟨hlt, hgood (by rw [hb]; simp [*]; try omega)⟩)), (by omega), ⟨⟨rfl, rfl, trivial⟩, rfl, rfl⟩, ⟨_, take0⟩⟩
          ·
            refine gT rfl <| v0 (S0.move rfl) rfl <| gT rfl <| v0 (S0.cmp rfl rfl rfl) rfl <| v0 (S0.pickF rfl rfl) rfl <| v0 (S0.move rfl) rfl <| ?_
            first | refine csP (t := 32) rfl (fun hq4 => ?_) (fun hq4 => ?_) | refine csN (t := 32) rfl (fun hq4 => ?_) (fun hq4 => ?_) | refine cs (t := 32) rfl (fun hq4 => ?_) (fun hq4 => ?_)
            ·
              refine gF rfl rfl <| gF rfl rfl <| v0 (S0.pickT rfl rfl) rfl <| v0 (S0.not rfl) rfl <| vE <| WP.condF rfl <| WP.skip <| WP.region <| v0 (S0.move rfl) rfl <| v0 (S0.ari rfl rfl rfl (wrap_i64 (by omega))) rfl <| v0 (S0.assign rfl) rfl <| vE <| ?_
              exact ⟨i + 1, (by first | exact ⟨hlt, hgood (by rw [hb]; simp [*]; try omega)⟩ | (dsimp only; exact ⟨hlt, hgood (by rw [hb]; simp [*]; try omega)⟩)), (by omega), ⟨⟨rfl, rfl, trivial⟩, rfl, rfl⟩, ⟨_, take0⟩⟩
            ·
              refine gT rfl <| v0 (S0.move rfl) rfl <| gT rfl <| v0 (S0.cmp rfl rfl rfl) rfl <| v0 (S0.pickF rfl rfl) rfl <| v0 (S0.not rfl) rfl <| vE <| ?_
              first | refine WP.condP rfl (fun hq5 => ?_) (fun hq5 => ?_) | refine WP.condN rfl (fun hq5 => ?_) (fun hq5 => ?_) | refine WP.cond rfl (fun hq5 => ?_) (fun hq5 => ?_)
              ·
                refine WP.seq <| WP.region <| v0 (S0.assign rfl) rfl <| vE <| WP.ret <| ?_
                refine r1 rfl rfl ⟨?_, rfl⟩
                exact congrArg Value.bool (hbad (by rw [hb]; simp [*]; try omega))
              ·
                refine WP.skip <| WP.region <| v0 (S0.move rfl) rfl <| v0 (S0.ari rfl rfl rfl (wrap_i64 (by omega))) rfl <| v0 (S0.assign rfl) rfl <| vE <| ?_
                exact ⟨i + 1, (by first | exact ⟨hlt, hgood (by rw [hb]; simp [*]; try omega)⟩ | (dsimp only; exact ⟨hlt, hgood (by rw [hb]; simp [*]; try omega)⟩)), (by omega), ⟨⟨rfl, rfl, trivial⟩, rfl, rfl⟩, ⟨_, take0⟩⟩
        ·
          refine gF rfl rfl <| gF rfl rfl <| gT rfl <| v0 (S0.pickF rfl rfl) rfl <| v0 (S0.pickF rfl rfl) rfl <| v0 (S0.move rfl) rfl <| gT rfl <| v0 (S0.move rfl) rfl <| gT rfl <| v0 (S0.cmp rfl rfl rfl) rfl <| v0 (S0.pickF rfl rfl) rfl <| v0 (S0.move rfl) rfl <| ?_
          first | refine csP (t := 32) rfl (fun hq3 => ?_) (fun hq3 => ?_) | refine csN (t := 32) rfl (fun hq3 => ?_) (fun hq3 => ?_) | refine cs (t := 32) rfl (fun hq3 => ?_) (fun hq3 => ?_)
          ·
            refine gF rfl rfl <| gF rfl rfl <| v0 (S0.pickT rfl rfl) rfl <| v0 (S0.not rfl) rfl <| vE <| WP.condF rfl <| WP.skip <| WP.region <| v0 (S0.move rfl) rfl <| v0 (S0.ari rfl rfl rfl (wrap_i64 (by omega))) rfl <| v0 (S0.assign rfl) rfl <| vE <| ?_
            exact ⟨i + 1, (by first | exact ⟨hlt, hgood (by rw [hb]; simp [*]; try omega)⟩ | (dsimp only; exact ⟨hlt, hgood (by rw [hb]; simp [*]; try omega)⟩)), (by omega), ⟨⟨rfl, rfl, trivial⟩, rfl, rfl⟩, ⟨_, take0⟩⟩
          ·
            refine gT rfl <| v0 (S0.move rfl) rfl <| gT rfl <| v0 (S0.cmp rfl rfl rfl) rfl <| v0 (S0.pickF rfl rfl) rfl <| v0 (S0.not rfl) rfl <| vE <| ?_
            first | refine WP.condP rfl (fun hq4 => ?_) (fun hq4 => ?_) | refine WP.condN rfl (fun hq4 => ?_) (fun hq4 => ?_) | refine WP.cond rfl (fun hq4 => ?_) (fun hq4 => ?_)
            ·
              refine WP.seq <| WP.region <| v0 (S0.assign rfl) rfl <| vE <| WP.ret <| ?_
              refine r1 rfl rfl ⟨?_, rfl⟩
              exact congrArg Value.bool (hbad (by rw [hb]; simp [*]; try omega))
            ·
              refine WP.skip <| WP.region <| v0 (S0.move rfl) rfl <| v0 (S0.ari rfl rfl rfl (wrap_i64 (by omega))) rfl <| v0 (S0.assign rfl) rfl <| vE <| ?_
              exact ⟨i + 1, (by first | exact ⟨hlt, hgood (by rw [hb]; simp [*]; try omega)⟩ | (dsimp only; exact ⟨hlt, hgood (by rw [hb]; simp [*]; try omega)⟩)), (by omega), ⟨⟨rfl, rfl, trivial⟩, rfl, rfl⟩, ⟨_, take0⟩⟩
    ·
      refine gF rfl rfl <| gF rfl rfl <| v0 (S0.pickF rfl rfl) rfl <| v0 (S0.move rfl) rfl <| gT rfl <| v0 (S0.move rfl) rfl <| gT rfl <| v0 (S0.cmp rfl rfl rfl) rfl <| gT rfl <| v0 (S0.move rfl) rfl <| ?_
      first | refine csP (t := 23) rfl (fun hq1 => ?_) (fun hq1 => ?_) | refine csN (t := 23) rfl (fun hq1 => ?_) (fun hq1 => ?_) | refine cs (t := 23) rfl (fun hq1 => ?_) (fun hq1 => ?_)
      ·
        refine gT rfl <| v0 (S0.move rfl) rfl <| gT rfl <| v0 (S0.cmp rfl rfl rfl) rfl <| gT rfl <| v0 (S0.pickT rfl rfl) rfl <| v0 (S0.pickF rfl rfl) rfl <| v0 (S0.move rfl) rfl <| ?_
        first | refine csP (t := 28) rfl (fun hq2 => ?_) (fun hq2 => ?_) | refine csN (t := 28) rfl (fun hq2 => ?_) (fun hq2 => ?_) | refine cs (t := 28) rfl (fun hq2 => ?_) (fun hq2 => ?_)
        ·
          refine gF rfl rfl <| gF rfl rfl <| v0 (S0.pickT rfl rfl) rfl <| v0 (S0.move rfl) rfl <| gF rfl rfl <| gF rfl rfl <| v0 (S0.pickT rfl rfl) rfl <| v0 (S0.not rfl) rfl <| vE <| WP.condF rfl <| WP.skip <| WP.region <| v0 (S0.move rfl) rfl <| v0 (S0.ari rfl rfl rfl (wrap_i64 (by omega))) rfl <| v0 (S0.assign rfl) rfl <| vE <| ?_
          exact ⟨i + 1, (by first | exact ⟨hlt, hgood (by rw [hb]; simp [*]; try omega)⟩ | (dsimp only; exact ⟨hlt, hgood (by rw [hb]; simp [*]; try omega)⟩)), (by omega), ⟨⟨rfl, rfl, trivial⟩, rfl, rfl⟩, ⟨_, take0⟩⟩
        ·
          refine gT rfl <| v0 (S0.move rfl) rfl <| gT rfl <| v0 (S0.cmp rfl rfl rfl) rfl <| v0 (S0.pickF rfl rfl) rfl <| v0 (S0.move rfl) rfl <| ?_
          first | refine csP (t := 32) rfl (fun hq3 => ?_) (fun hq3 => ?_) | refine csN (t := 32) rfl (fun hq3 => ?_) (fun hq3 => ?_) | refine cs (t := 32) rfl (fun hq3 => ?_) (fun hq3 => ?_)
          ·
            refine gF rfl rfl <| gF rfl rfl <| v0 (S0.pickT rfl rfl) rfl <| v0 (S0.not rfl) rfl <| vE <| WP.condF rfl <| WP.skip <| WP.region <| v0 (S0.move rfl) rfl <| v0 (S0.ari rfl rfl rfl (wrap_i64 (by omega))) rfl <| v0 (S0.assign rfl) rfl <| vE <| ?_
            exact ⟨i + 1, (by first | exact ⟨hlt, hgood (by rw [hb]; simp [*]; try omega)⟩ | (dsimp only; exact ⟨hlt, hgood (by rw [hb]; simp [*]; try omega)⟩)), (by omega), ⟨⟨rfl, rfl, trivial⟩, rfl, rfl⟩, ⟨_, take0⟩⟩
          ·
            refine gT rfl <| v0 (S0.move rfl) rfl <| gT rfl <| v0 (S0.cmp rfl rfl rfl) rfl <| v0 (S0.pickF rfl rfl) rfl <| v0 (S0.not rfl) rfl <| vE <| ?_
            first | refine WP.condP rfl (fun hq4 => ?_) (fun hq4 => ?_) | refine WP.condN rfl (fun hq4 => ?_) (fun hq4 => ?_) | refine WP.cond rfl (fun hq4 => ?_) (fun hq4 => ?_)
            ·
              refine WP.seq <| WP.region <| v0 (S0.assign rfl) rfl <| vE <| WP.ret <| ?_
              refine r1 rfl rfl ⟨?_, rfl⟩
              exact congrArg Value.bool (hbad (by rw [hb]; simp [*]; try omega))
            ·
              refine WP.skip <| WP.region <| v0 (S0.move rfl) rfl <| v0 (S0.ari rfl rfl rfl (wrap_i64 (by omega))) rfl <| v0 (S0.assign rfl) rfl <| vE <| ?_
              exact ⟨i + 1, (by first | exact ⟨hlt, hgood (by rw [hb]; simp [*]; try omega)⟩ | (dsimp only; exact ⟨hlt, hgood (by rw [hb]; simp [*]; try omega)⟩)), (by omega), ⟨⟨rfl, rfl, trivial⟩, rfl, rfl⟩, ⟨_, take0⟩⟩
      ·
        refine gF rfl rfl <| gF rfl rfl <| gT rfl <| v0 (S0.pickF rfl rfl) rfl <| v0 (S0.pickF rfl rfl) rfl <| v0 (S0.move rfl) rfl <| gT rfl <| v0 (S0.move rfl) rfl <| gT rfl <| v0 (S0.cmp rfl rfl rfl) rfl <| v0 (S0.pickF rfl rfl) rfl <| v0 (S0.move rfl) rfl <| ?_
        first | refine csP (t := 32) rfl (fun hq2 => ?_) (fun hq2 => ?_) | refine csN (t := 32) rfl (fun hq2 => ?_) (fun hq2 => ?_) | refine cs (t := 32) rfl (fun hq2 => ?_) (fun hq2 => ?_)
        ·
          refine gF rfl rfl <| gF rfl rfl <| v0 (S0.pickT rfl rfl) rfl <| v0 (S0.not rfl) rfl <| vE <| WP.condF rfl <| WP.skip <| WP.region <| v0 (S0.move rfl) rfl <| v0 (S0.ari rfl rfl rfl (wrap_i64 (by omega))) rfl <| v0 (S0.assign rfl) rfl <| vE <| ?_
          exact ⟨i + 1, (by first | exact ⟨hlt, hgood (by rw [hb]; simp [*]; try omega)⟩ | (dsimp only; exact ⟨hlt, hgood (by rw [hb]; simp [*]; try omega)⟩)), (by omega), ⟨⟨rfl, rfl, trivial⟩, rfl, rfl⟩, ⟨_, take0⟩⟩
        ·
          refine gT rfl <| v0 (S0.move rfl) rfl <| gT rfl <| v0 (S0.cmp rfl rfl rfl) rfl <| v0 (S0.pickF rfl rfl) rfl <| v0 (S0.not rfl) rfl <| vE <| ?_
          first | refine WP.condP rfl (fun hq3 => ?_) (fun hq3 => ?_) | refine WP.condN rfl (fun hq3 => ?_) (fun hq3 => ?_) | refine WP.cond rfl (fun hq3 => ?_) (fun hq3 => ?_)
          ·
            refine WP.seq <| WP.region <| v0 (S0.assign rfl) rfl <| vE <| WP.ret <| ?_
            refine r1 rfl rfl ⟨?_, rfl⟩
            exact congrArg Value.bool (hbad (by rw [hb]; simp [*]; try omega))
          ·
            refine WP.skip <| WP.region <| v0 (S0.move rfl) rfl <| v0 (S0.ari rfl rfl rfl (wrap_i64 (by omega))) rfl <| v0 (S0.assign rfl) rfl <| vE <| ?_
            exact ⟨i + 1, (by first | exact ⟨hlt, hgood (by rw [hb]; simp [*]; try omega)⟩ | (dsimp only; exact ⟨hlt, hgood (by rw [hb]; simp [*]; try omega)⟩)), (by omega), ⟨⟨rfl, rfl, trivial⟩, rfl, rfl⟩, ⟨_, take0⟩⟩
  · skip
    have e : i = s.length := by omega
    subst e
    rw [List.take_length] at hall
    refine WP.exit <| WP.seq <| WP.region <| v0 (S0.move rfl) rfl <| v0 (S0.lenSt rfl) rfl <| v0 (S0.cmp rfl rfl rfl) rfl <| v0 (S0.move rfl) rfl <| ?_
    first | refine csP (t := 40) rfl (fun hq0 => ?_) (fun hq0 => ?_) | refine csN (t := 40) rfl (fun hq0 => ?_) (fun hq0 => ?_) | refine cs (t := 40) rfl (fun hq0 => ?_) (fun hq0 => ?_)
    ·
      refine gT rfl <| v0 (S0.move rfl) rfl <| gT rfl <| v0 (S0.lenSt rfl) rfl <| gT rfl <| v0 (S0.cmp rfl rfl rfl) rfl <| v0 (S0.pickT rfl rfl) rfl <| v0 (S0.assign rfl) rfl <| vE <| WP.ret <| ?_
      refine r1 rfl rfl ⟨?_, rfl⟩
      exact congrArg Value.bool (by rw [Bool.eq_iff_iff]; simp [nameS, hall, ← List.length_pos_iff]; try omega)
    ·
      refine gF rfl rfl <| gF rfl rfl <| gF rfl rfl <| v0 (S0.pickF rfl rfl) rfl <| v0 (S0.assign rfl) rfl <| vE <| WP.ret <| ?_
      refine r1 rfl rfl ⟨?_, rfl⟩
      exact congrArg Value.bool (by rw [Bool.eq_iff_iff]; simp [nameS, hall, ← List.length_pos_iff]; try omega)

theorem levels_mem_len : ∀ (s : Str) (x : Str), x ∈ levels s → x.length ≤ s.length
  | [], x, h => by simp [levels] at h; simp [h]
  | c :: s, x, h => by
    simp only [levels] at h
    split at h
    · rcases List.mem_cons.1 h with rfl | h
      · simp
      · have := levels_mem_len s x h; simp; omega
    · split at h
      · simp at h; simp [h]
      · rename_i l ls e
        rcases List.mem_cons.1 h with rfl | h
        · have := levels_mem_len s l (by rw [e]; simp); simp; omega
        · have := levels_mem_len s x (by rw [e]; simp [h]); simp; omega
theorem rright_spec {s : Str} (hl : s.length ≤ 900000) : FN Tryz.prog 73 [sv s] [] (is (.bool (rightS s)) []) := by
  have hll := levels_len s
  have hlm : ∀ x ∈ levels s, x.length ≤ 1000000 := fun x hx => by have := levels_mem_len s x hx; omega
  refine FN.intro 22 [(0, sv s)] Tryz.func73 rfl (enters Tryz.func73 (by kernel_rfl) rfl) Tryz.ntmps73 rfl rfl ?_
  refine WP.seq <| WP.region <| v0 (S0.assign rfl) rfl <| vE <| WP.seq <| WP.region <| v0 (S0.move rfl) rfl <| ?_  -- op t6 := call F44{rivulet/rivuletref03.Levels}(t5)
  refine vc (S1.callF rfl (rlevels_spec (by omega)) take0) rfl ?_
  rintro _ _ ⟨row, hsl, rfl⟩
  refine app ?_
  obtain ⟨a, cap, rfl, -, hrow⟩ := hsl.strsE
  refine v0 (S0.assign rfl) rfl <| vE <| WP.seq <| WP.seq <| WP.region <| v0 (S0.assign rfl) rfl <| vE <| WP.block <| ?_  -- Code.loop
  refine WP.loop (fun i : Nat => i ≤ (levels s).length ∧ ((levels s).take i).all nameS = true) (fun i : Nat => [(3, .slice a (levels s).length cap), (4, .int .i64 (i : Int))]) (fun i : Nat => [row]) (fun i : Nat => (levels s).length - i) (0) (⟨Nat.zero_le _, by simp⟩) ⟨rfl, rfl, trivial⟩ ⟨_, (take1 at0 take0)⟩ (fun i hinv => ?_) 
  obtain ⟨hi, hall⟩ := hinv
  refine WP.seq <| WP.seq <| WP.region <| v0 (S0.move rfl) rfl <| v0 (S0.move rfl) rfl <| v0 (S0.lenSl rfl) rfl <| v0 (S0.cmp rfl rfl rfl) rfl <| vE <| ?_  -- cond
  first | refine WP.condP rfl (fun h1 => ?_) (fun h1 => ?_) | refine WP.condN rfl (fun h1 => ?_) (fun h1 => ?_) | refine WP.cond rfl (fun h1 => ?_) (fun h1 => ?_)
  · skip
    have hlt : i < (levels s).length := by omega
    rcases hrow with ⟨e, -⟩ | ⟨b1, sp1, rfl, rfl, hsp1⟩
    · rw [e] at hlt; simp at hlt
    have hx : (levels s)[i]? = some (levels s)[i] := by simp [hlt]
    have hxm := hlm _ (List.getElem_mem hlt)
    generalize (levels s)[i] = x at hx hxm
    refine WP.skip <| WP.seq <| WP.block <| WP.seq <| WP.region <| v0 (S0.move rfl) rfl <| v0 (S0.move rfl) rfl <| ?_  -- op t15 := indexAddr 23 t13 t14
    refine v0 (S0.index1 rfl rfl hlt) rfl <| ?_
    refine v0 (S0.load rfl (strs_get hx)) rfl <| ?_
    -- (nothing to walk: op t17 := call F45{rivulet/rivuletref03.Name}(t16))
    refine vcd (S1.callF rfl (rname_spec x hxm) take0) rfl ?_
    refine v0 (S0.not rfl) rfl <| vE <| ?_  -- cond
    first | refine WP.condP rfl (fun h2 => ?_) (fun h2 => ?_) | refine WP.condN rfl (fun h2 => ?_) (fun h2 => ?_) | refine WP.cond rfl (fun h2 => ?_) (fun h2 => ?_)
    · skip
      refine WP.seq <| WP.region <| v0 (S0.assign rfl) rfl <| vE <| WP.ret <| ?_  -- ret
      refine Leaves.drop take0 ?_
      refine r1 rfl rfl ⟨?_, rfl⟩
      have h2' : nameS x = false := by simpa using h2
      have : (levels s).all nameS = false := by
        rw [List.all_eq_false]
        obtain ⟨hlt', e⟩ := List.getElem?_eq_some_iff.1 hx
        exact ⟨x, by rw [← e]; exact List.getElem_mem hlt', by simp [h2']⟩
      simp [rightS, this]
    · skip
      have h2' : nameS x = true := by simpa using h2
      refine WP.skip <| WP.region <| v0 (S0.move rfl) rfl <| v0 (S0.ari rfl rfl rfl (wrap_i64 (by omega))) rfl <| v0 (S0.assign rfl) rfl <| vE <| ?_  -- roundend
      exact ⟨i + 1, (by first | exact ⟨hlt, by rw [List.take_add_one, hx, List.all_append, hall]; simp [h2']⟩ | (dsimp only; exact ⟨hlt, by rw [List.take_add_one, hx, List.all_append, hall]; simp [h2']⟩)), (by omega), ⟨⟨rfl, rfl, trivial⟩, rfl, rfl⟩, ⟨_, (take1 at0 take0)⟩⟩
  · skip
    have e : i = (levels s).length := by omega
    subst e
    rw [List.take_length] at hall
    refine WP.exit <| WP.seq <| WP.region <| v0 (S0.move rfl) rfl <| v0 (S0.lenSl rfl) rfl <| v0 (S0.cmp rfl rfl rfl) rfl <| v0 (S0.assign rfl) rfl <| vE <| WP.ret <| ?_  -- ret
    refine Leaves.drop take0 ?_
    refine r1 rfl rfl ⟨?_, rfl⟩
    rw [rightS, hall, Bool.and_true]
    congr 1; rw [decide_eq_decide]; omega
theorem rfilter_spec {s : Str} (hl : s.length ≤ 900000) : FN Tryz.prog 27 [sv s] [] (is (.bool (filtS s)) []) := by
  have hll := levels_len s
  have hlm : ∀ x ∈ levels s, x.length ≤ 1000000 := fun x hx => by have := levels_mem_len s x hx; omega
  refine FN.intro 43 [(0, sv s)] Tryz.func27 rfl (enters Tryz.func27 (by kernel_rfl) rfl) Tryz.ntmps27 rfl rfl ?_
  refine WP.seq <| WP.region <| v0 (S0.assign rfl) rfl <| vE <| WP.seq <| WP.region <| v0 (S0.move rfl) rfl <| ?_  -- op t6 := call F44{rivulet/rivuletref03.Levels}(t5)
  refine vc (S1.callF rfl (rlevels_spec (by omega)) take0) rfl ?_
  rintro _ _ ⟨row, hsl, rfl⟩
  refine app ?_
  obtain ⟨a, cap, rfl, -, hrow⟩ := hsl.strsE
  refine v0 (S0.assign rfl) rfl <| vE <| WP.seq <| WP.seq <| WP.region <| v0 (S0.assign rfl) rfl <| vE <| WP.block <| ?_  -- Code.loop
  refine WP.loop (fun i : Nat => i ≤ (levels s).length ∧ ∀ j y, j < i → (levels s)[j]? = some y → badAt (levels s) j y = false) (fun i : Nat => [(3, .slice a (levels s).length cap), (4, .int .i64 (i : Int))]) (fun i : Nat => [row]) (fun i : Nat => (levels s).length - i) (0) (⟨by omega, fun j y hj => by omega⟩) ⟨rfl, rfl, trivial⟩ ⟨_, (take1 at0 take0)⟩ (fun i hinv => ?_) 
  obtain ⟨hi, hno⟩ := hinv
  refine WP.seq <| WP.seq <| WP.region <| v0 (S0.move rfl) rfl <| v0 (S0.move rfl) rfl <| v0 (S0.lenSl rfl) rfl <| v0 (S0.cmp rfl rfl rfl) rfl <| vE <| ?_  -- cond
  first | refine WP.condP rfl (fun h1 => ?_) (fun h1 => ?_) | refine WP.condN rfl (fun h1 => ?_) (fun h1 => ?_) | refine WP.cond rfl (fun h1 => ?_) (fun h1 => ?_)
  · skip
    have hlt : i < (levels s).length := by omega
    rcases hrow with ⟨e, -⟩ | ⟨b1, sp1, rfl, rfl, hsp1⟩
    · rw [e] at hlt; simp at hlt
    have hx : (levels s)[i]? = some (levels s)[i] := by simp [hlt]
    have hxm := hlm _ (List.getElem_mem hlt)
    generalize (levels s)[i] = x at hx hxm
    have hlast : ((i : Int) < ((levels s).length : Int) - 1) ↔ ¬ i + 1 = (levels s).length := by omega
    have hb : badAt (levels s) i x = (!nameS x && (!decide (x = [43]) && (!decide (x = [35]) || decide ((i : Int) < ((levels s).length : Int) - 1)))) := by simp [badAt, hlast]
    clear hlast
    have hbad : badAt (levels s) i x = true → false = filtS s := fun e => by
      have : ¬ filtL (levels s) = true := fun hf => by have := (filtL_iff _).1 hf i _ hx; rw [e] at this; cases this
      have : filtL (levels s) = false := by simpa using this
      simp [filtS, this]
    have hgood : badAt (levels s) i x = false → ∀ j y, j < i + 1 → (levels s)[j]? = some y → badAt (levels s) j y = false := fun e => below_at (p := fun j y => badAt (levels s) j y = false) hno hx e
    refine WP.skip <| WP.seq <| WP.block <| WP.seq <| WP.region <| v0 (S0.move rfl) rfl <| v0 (S0.move rfl) rfl <| ?_  -- op t15 := indexAddr 23 t13 t14
    refine v0 (S0.index1 rfl rfl hlt) rfl <| ?_
    refine v0 (S0.load rfl (strs_get hx)) rfl <| ?_
    -- (nothing to walk: op t17 := call F45{rivulet/rivuletref03.Name}(t16))
    refine vcd (S1.callF rfl (rname_spec x hxm) take0) rfl ?_
    refine v0 (S0.not rfl) rfl <| v0 (S0.move rfl) rfl <| ?_  -- guard t19 (wants True) at t20 := move t3 [if #6=True]
    first | refine csP (t := 19) rfl (fun h2 => ?_) (fun h2 => ?_) | refine csN (t := 19) rfl (fun h2 => ?_) (fun h2 => ?_) | refine cs (t := 19) rfl (fun h2 => ?_) (fun h2 => ?_)
    · skip
      refine gT rfl <| v0 (S0.move rfl) rfl <| gT rfl <| v0 (S0.move rfl) rfl <| ?_  -- op t22 := indexAddr 23 t20 t21 [if #6=True]
      refine gT rfl <| v0 (S0.index1 rfl rfl hlt) rfl <| ?_
      refine gT rfl <| v0 (S0.load rfl (strs_get hx)) rfl <| ?_
      refine gT rfl <| v0 (S0.cmpS rfl rfl rfl) rfl <| v0 (S0.pickT rfl rfl) rfl <| v0 (S0.move rfl) rfl <| ?_  -- guard t26 (wants True) at t27 := move t3 [if #13=True]
      first | refine csP (t := 26) rfl (fun h3 => ?_) (fun h3 => ?_) | refine csN (t := 26) rfl (fun h3 => ?_) (fun h3 => ?_) | refine cs (t := 26) rfl (fun h3 => ?_) (fun h3 => ?_)
      · skip
        refine gT rfl <| v0 (S0.move rfl) rfl <| gT rfl <| v0 (S0.move rfl) rfl <| ?_  -- op t29 := indexAddr 23 t27 t28 [if #13=True]
        refine gT rfl <| v0 (S0.index1 rfl rfl hlt) rfl <| ?_
        refine gT rfl <| v0 (S0.load rfl (strs_get hx)) rfl <| ?_
        refine gT rfl <| v0 (S0.cmpS rfl rfl rfl) rfl <| gT rfl <| v0 (S0.move rfl) rfl <| ?_  -- guard t32 (wants False) at t33 := move t4 [if #19=False]
        first | refine csP (t := 32) rfl (fun hq0 => ?_) (fun hq0 => ?_) | refine csN (t := 32) rfl (fun hq0 => ?_) (fun hq0 => ?_) | refine cs (t := 32) rfl (fun hq0 => ?_) (fun hq0 => ?_)
        ·
          refine gF rfl rfl <| gF rfl rfl <| gF rfl rfl <| gF rfl rfl <| gF rfl rfl <| gT rfl <| v0 (S0.pickT rfl rfl) rfl <| v0 (S0.pickT rfl rfl) rfl <| vE <| WP.condT rfl <| WP.seq <| WP.region <| v0 (S0.assign rfl) rfl <| vE <| WP.ret <| ?_
          refine Leaves.drop take0 ?_
          refine r1 rfl rfl ⟨?_, rfl⟩
          exact congrArg Value.bool (hbad (by rw [hb]; simp [not_name_rest, *]))
        ·
          refine gT rfl <| v0 (S0.move rfl) rfl <| gT rfl <| v0 (S0.move rfl) rfl <| gT rfl <| v0 (S0.lenSl rfl) rfl <| gT rfl <| v0 (S0.ari rfl rfl rfl (wrap_i64 (by omega))) rfl <| gT rfl <| v0 (S0.cmp rfl rfl rfl) rfl <| gT rfl <| v0 (S0.pickF rfl rfl) rfl <| v0 (S0.pickT rfl rfl) rfl <| vE <| ?_
          first | refine WP.condP rfl (fun hq1 => ?_) (fun hq1 => ?_) | refine WP.condN rfl (fun hq1 => ?_) (fun hq1 => ?_) | refine WP.cond rfl (fun hq1 => ?_) (fun hq1 => ?_)
          ·
            refine WP.seq <| WP.region <| v0 (S0.assign rfl) rfl <| vE <| WP.ret <| ?_
            refine Leaves.drop take0 ?_
            refine r1 rfl rfl ⟨?_, rfl⟩
            exact congrArg Value.bool (hbad (by rw [hb]; simp [not_name_rest, *]))
          ·
            refine WP.skip <| WP.region <| v0 (S0.move rfl) rfl <| v0 (S0.ari rfl rfl rfl (wrap_i64 (by omega))) rfl <| v0 (S0.assign rfl) rfl <| vE <| ?_
            exact ⟨i + 1, (by first | exact ⟨hlt, hgood (by rw [hb]; simp [not_name_rest, *])⟩ | (dsimp only; exact ⟨hlt, hgood (by rw [hb]; simp [not_name_rest, *])⟩)), (by omega), ⟨⟨rfl, rfl, trivial⟩, rfl, rfl⟩, ⟨_, (take1 at0 take0)⟩⟩
      · skip
        refine gF rfl rfl <| gF rfl rfl <| gF rfl rfl <| gF rfl rfl <| gF rfl rfl <| gF rfl rfl <| gF rfl rfl <| gF rfl rfl <| gF rfl rfl <| gF rfl rfl <| gF rfl rfl <| gF rfl rfl <| v0 (S0.pickF rfl rfl) rfl <| vE <| WP.condF rfl <| WP.skip <| WP.region <| v0 (S0.move rfl) rfl <| v0 (S0.ari rfl rfl rfl (wrap_i64 (by omega))) rfl <| v0 (S0.assign rfl) rfl <| vE <| ?_  -- roundend
        exact ⟨i + 1, (by first | exact ⟨hlt, hgood (by rw [hb]; simp [h3])⟩ | (dsimp only; exact ⟨hlt, hgood (by rw [hb]; simp [h3])⟩)), (by omega), ⟨⟨rfl, rfl, trivial⟩, rfl, rfl⟩, ⟨_, (take1 at0 take0)⟩⟩
    · skip
      refine gF rfl rfl <| gF rfl rfl <| gF rfl rfl <| gF rfl rfl <| gF rfl rfl <| v0 (S0.pickF rfl rfl) rfl <| v0 (S0.move rfl) rfl <| gF rfl rfl <| gF rfl rfl <| gF rfl rfl <| gF rfl rfl <| gF rfl rfl <| gF rfl rfl <| gF rfl rfl <| gF rfl rfl <| gF rfl rfl <| gF rfl rfl <| gF rfl rfl <| gF rfl rfl <| v0 (S0.pickF rfl rfl) rfl <| vE <| WP.condF rfl <| WP.skip <| WP.region <| v0 (S0.move rfl) rfl <| v0 (S0.ari rfl rfl rfl (wrap_i64 (by omega))) rfl <| v0 (S0.assign rfl) rfl <| vE <| ?_  -- roundend
      exact ⟨i + 1, (by first | exact ⟨hlt, hgood (by rw [hb]; simp at h2; simp [h2])⟩ | (dsimp only; exact ⟨hlt, hgood (by rw [hb]; simp at h2; simp [h2])⟩)), (by omega), ⟨⟨rfl, rfl, trivial⟩, rfl, rfl⟩, ⟨_, (take1 at0 take0)⟩⟩
  · skip
    have h8 : filtL (levels s) = true := (filtL_iff _).2 fun j y hj => hno j y (by have := (List.getElem?_eq_some_iff.1 hj).1; omega) hj
    refine WP.exit <| WP.seq <| WP.region <| v0 (S0.move rfl) rfl <| v0 (S0.lenSl rfl) rfl <| v0 (S0.cmp rfl rfl rfl) rfl <| v0 (S0.assign rfl) rfl <| vE <| WP.ret <| ?_  -- ret
    refine Leaves.drop take0 ?_
    refine r1 rfl rfl ⟨?_, rfl⟩
    rw [filtS, h8, Bool.and_true]
    congr 1; rw [decide_eq_decide]; omega

theorem rrow_spec {s : Str} {n : Nat} (hl : s.length ≤ 900000) (hn : n ≤ 900000) : FN Tryz.prog 74 [sv s, .int .i64 (n : Int)] [] (fun v h => ∃ rv row, IsSl 9 1 rv (strs (rowL (levels s) n).1) row ∧ v = .tuple ⟨[rv, .bool (rowL (levels s) n).2]⟩ ∧ h = [row]) := by
  have hll := levels_len s
  have hpos : 0 < (levels s).length := List.length_pos_iff.2 (levels_ne s)
  have hk : ((levels s).length : Int) - 1 = (((levels s).length - 1 : Nat) : Int) := by omega
  have hlt : (levels s).length - 1 < (levels s).length := by omega
  obtain ⟨x, hx⟩ : ∃ x, (levels s)[(levels s).length - 1]? = some x := ⟨_, List.getElem?_eq_getElem hlt⟩
  have hlast : (levels s).getLast? = some x := by rw [List.getLast?_eq_getElem?, hx]
  have erow : rowL (levels s) n = if x = [35] then ((levels s).take ((levels s).length - 1) ++ List.replicate (n - ((levels s).length - 1)) [43], decide ((levels s).length - 1 ≤ n)) else (levels s, decide ((levels s).length = n)) := by
    unfold rowL; rw [hlast]
  refine FN.intro 41 [(0, sv s), (1, .int .i64 (n : Int))] Tryz.func74 rfl (enters Tryz.func74 (by kernel_rfl) rfl) Tryz.ntmps74 rfl rfl ?_
  refine WP.seq <| WP.region <| v0 (S0.assign rfl) rfl <| v0 (S0.assign rfl) rfl <| vE <| WP.seq <| WP.region <| v0 (S0.move rfl) rfl <| ?_  -- op t10 := call F44{rivulet/rivuletref03.Levels}(t9)
  refine vc (S1.callF rfl (rlevels_spec (by omega)) take0) rfl ?_
  rintro _ _ ⟨row, hsl, rfl⟩
  refine app ?_
  obtain ⟨a, cap, rfl, hcap, hrow⟩ := hsl.strsE
  rcases hrow with ⟨e, -⟩ | ⟨b1, sp1, rfl, rfl, hsp1⟩
  · exact absurd e (levels_ne s)
  refine v0 (S0.assign rfl) rfl <| vE <| WP.seq <| WP.region <| v0 (S0.move rfl) rfl <| v0 (S0.lenSl rfl) rfl <| v0 (S0.assign rfl) rfl <| vE <| WP.seq <| WP.seq <| WP.region <| v0 (S0.move rfl) rfl <| v0 (S0.move rfl) rfl <| v0 (S0.ari rfl rfl rfl (wrap_i64 (by omega))) rfl <| ?_  -- op t16 := indexAddr 23 t13 t15
  rw [hk]
  refine v0 (S0.index1 rfl rfl hlt) rfl <| ?_
  refine v0 (S0.load rfl (strs_get hx)) rfl <| ?_
  refine v0 (S0.cmpS rfl rfl rfl) rfl <| vE <| ?_  -- cond
  first | refine WP.condP rfl (fun h1 => ?_) (fun h1 => ?_) | refine WP.condN rfl (fun h1 => ?_) (fun h1 => ?_) | refine WP.cond rfl (fun h1 => ?_) (fun h1 => ?_)
  · skip
    refine WP.seq <| WP.region <| v0 (S0.move rfl) rfl <| v0 (S0.move rfl) rfl <| v0 (S0.move rfl) rfl <| v0 (S0.cmp rfl rfl rfl) rfl <| v0 (S0.assign rfl) rfl <| v0 (S0.assign rfl) rfl <| vE <| WP.ret <| ?_  -- ret
    refine r2 rfl rfl rfl ?_
    rw [erow, if_neg h1, show decide (((levels s).length : Int) = (n : Int)) = decide ((levels s).length = n) from decide_eq_decide.2 (by omega)]
    exact ⟨_, _, hsl, rfl, rfl⟩
  · skip
    rw [erow, if_pos h1]
    obtain ⟨hw, hle⟩ := strs_cut sp1 (levels s) 0 ((levels s).length - 1) cap (Nat.zero_le _) (by omega) hcap
    rw [List.drop_zero, Nat.sub_zero] at hw
    have htl : ((levels s).take ((levels s).length - 1)).length = (levels s).length - 1 := by simp
    refine WP.skip <| WP.seq <| WP.region <| vnv (S1.buildSlice rfl (qs := []) rfl rfl) rfl fun b23 => v0 (S0.move rfl) rfl <| v0 (S0.move rfl) rfl <| v0 (S0.ari rfl rfl rfl (wrap_i64 (by omega))) rfl <| ?_  -- op t27 := slice 23 t24 none t26 none
    rw [hk]
    refine v0 (S0.slice (i := 0) (j := (levels s).length - 1) rfl rfl rfl ⟨Nat.zero_le _, by omega⟩) rfl <| ?_
    refine ve (S1.appendS rfl (IsSl.row (n := 0) (c := 0) (l := []) (sp := []) rfl rfl (Nat.le_refl _)) rfl hle hw at0 (strs_cv _) rfl (by rw [strs_len, htl]; simp only [List.length_nil]; omega)) rfl ?_
    rintro v2 _ ⟨row2, hsl2, rfl⟩
    refine v0 (S0.assign rfl) rfl <| vE <| WP.seq <| WP.block <| ?_  -- Code.loop
    refine WP.loop (fun st : Nat × Value × List Blk => st.1 ≤ n - ((levels s).length - 1) ∧ IsSl 9 1 st.2.1 (strs ((levels s).take ((levels s).length - 1) ++ List.replicate st.1 [43])) st.2.2) (fun st : Nat × Value × List Blk => [(1, .int .i64 (n : Int)), (8, st.2.1)]) (fun st : Nat × Value × List Blk => [st.2.2]) (fun st : Nat × Value × List Blk => n - st.1) ((0, v2, row2)) (⟨Nat.zero_le _, by simpa [strs] using hsl2⟩) ⟨rfl, rfl, trivial⟩ ⟨_, (take1 at0 take0)⟩ (fun st hinv => ?_) 
    obtain ⟨j, lv, lrow⟩ := st
    obtain ⟨hj, hsl3⟩ := hinv
    dsimp only at hj hsl3 ⊢
    have hlen : ((levels s).take ((levels s).length - 1) ++ List.replicate j [43]).length = (levels s).length - 1 + j := by simp
    obtain ⟨a3, c3, rfl, -, -⟩ := hsl3.strsE
    rw [hlen] at hsl3 ⊢
    refine WP.seq <| WP.seq <| WP.region <| v0 (S0.move rfl) rfl <| v0 (S0.lenSl rfl) rfl <| v0 (S0.move rfl) rfl <| v0 (S0.cmp rfl rfl rfl) rfl <| vE <| ?_  -- cond
    first | refine WP.condP rfl (fun h2 => ?_) (fun h2 => ?_) | refine WP.condN rfl (fun h2 => ?_) (fun h2 => ?_) | refine WP.cond rfl (fun h2 => ?_) (fun h2 => ?_)
    · skip
      refine WP.skip <| WP.block <| WP.region <| v0 (S0.move rfl) rfl <| vnv (S1.buildSlice rfl (qs := [(0, _)]) rfl rfl) rfl fun b34 => ?_  -- op t35 := append(t33, t34) :[23, 23]
      refine ve (S1.appendL rfl hsl3 rfl rfl (atS at0) rfl rfl (by rw [strs_len, hlen]; simp; omega)) rfl ?_
      rintro v4 _ ⟨row4, hsl4, rfl⟩
      have hsl5 : IsSl 9 1 v4 (strs ((levels s).take ((levels s).length - 1) ++ List.replicate (j + 1) [43])) row4 := by
        rw [List.replicate_succ']
        simpa [strs] using hsl4
      refine v0 (S0.assign rfl) rfl <| vE <| ?_  -- roundend
      exact ⟨(j + 1, v4, row4), (by first | exact ⟨by omega, hsl5⟩ | (dsimp only; exact ⟨by omega, hsl5⟩)), (show n - (j + 1) < n - j by omega), ⟨⟨rfl, rfl, trivial⟩, rfl, rfl⟩, ⟨_, (take1 at0 take0)⟩⟩
    · skip
      have e : j = n - ((levels s).length - 1) := by omega
      refine WP.exit <| WP.seq <| WP.region <| v0 (S0.move rfl) rfl <| v0 (S0.move rfl) rfl <| v0 (S0.lenSl rfl) rfl <| v0 (S0.move rfl) rfl <| v0 (S0.cmp rfl rfl rfl) rfl <| v0 (S0.assign rfl) rfl <| v0 (S0.assign rfl) rfl <| vE <| WP.ret <| ?_  -- ret
      refine r2 rfl rfl rfl ?_
      rw [show decide ((((levels s).length - 1 + j : Nat) : Int) = (n : Int)) = decide ((levels s).length - 1 ≤ n) from decide_eq_decide.2 (by omega)]
      exact ⟨_, _, by rw [← e]; exact hsl3, rfl, rfl⟩
theorem rowOk_take : ∀ (f t : List Str) (i : Nat) (x y : Str), f[i]? = some x → t[i]? = some y → (decide (x = [43]) || decide (x = y)) = false → rowOk f t = false
  | [], _, i, x, y, h, _, _ => by simp at h
  | _ :: _, [], i, x, y, _, h, _ => by simp at h
  | a :: f, b :: t, 0, x, y, h1, h2, h3 => by
    simp at h1 h2; subst h1 h2
    simp only [rowOk, h3, Bool.false_and]
  | a :: f, b :: t, i + 1, x, y, h1, h2, h3 => by
    simp only [rowOk, rowOk_take f t i x y (by simpa using h1) (by simpa using h2) h3, Bool.and_false]
theorem rowOk_all : ∀ (f t : List Str), (∀ (i : Nat) (x y : Str), f[i]? = some x → t[i]? = some y → (decide (x = [43]) || decide (x = y)) = true) → rowOk f t = true
  | [], _, _ => by simp [rowOk]
  | _ :: _, [], _ => by simp [rowOk]
  | a :: f, b :: t, h => by
    have h0 := h 0 a b rfl rfl
    simp only [rowOk, h0, Bool.true_and]
    exact rowOk_all f t fun i x y hx hy => h (i + 1) x y (by simpa using hx) (by simpa using hy)
theorem rmatch_spec {f t : Str} (hf : f.length ≤ 800000) (ht : t.length ≤ 800000) : FN Tryz.prog 43 [sv f, sv t] [] (is (.bool (matchS f t)) []) := by
  refine FN.intro 52 [(0, sv f), (1, sv t)] Tryz.func43 rfl (enters Tryz.func43 (by kernel_rfl) rfl) Tryz.ntmps43 rfl rfl ?_
  refine WP.seq <| WP.region <| v0 (S0.assign rfl) rfl <| vE <| WP.seq <| WP.seq <| WP.region <| v0 (S0.move rfl) rfl <| ?_  -- op t10 := call F27{rivulet/rivuletref03.Filter}(t9)
  refine vcd (S1.callF rfl (rfilter_spec (show f.length ≤ 900000 by omega)) take0) rfl ?_
  refine v0 (S0.not rfl) rfl <| v0 (S0.move rfl) rfl <| ?_  -- guard t12 (wants False) at t13 := move t1 [if #3=False]
  first | refine csP (t := 12) rfl (fun hF => ?_) (fun hF => ?_) | refine csN (t := 12) rfl (fun hF => ?_) (fun hF => ?_) | refine cs (t := 12) rfl (fun hF => ?_) (fun hF => ?_)
  · skip
    refine gF rfl rfl <| gF rfl rfl <| gF rfl rfl <| v0 (S0.pickT rfl rfl) rfl <| vE <| WP.condT rfl <| WP.seq <| WP.region <| v0 (S0.assign rfl) rfl <| vE <| WP.ret <| ?_  -- ret
    refine r1 rfl rfl ⟨?_, rfl⟩
    have : filtS f = false := by simpa using hF
    simp [matchS, this]
  · skip
    have hF : filtS f = true := by simpa using hF
    refine gT rfl <| v0 (S0.move rfl) rfl <| ?_  -- op t14 := call F73{rivulet/rivuletref03.Right}(t13) [if #3=False]
    refine gT rfl <| vcd (S1.callF rfl (rright_spec (show t.length ≤ 900000 by omega)) take0) rfl ?_
    refine gT rfl <| v0 (S0.not rfl) rfl <| v0 (S0.pickF rfl rfl) rfl <| vE <| ?_  -- cond
    first | refine WP.condP rfl (fun hR => ?_) (fun hR => ?_) | refine WP.condN rfl (fun hR => ?_) (fun hR => ?_) | refine WP.cond rfl (fun hR => ?_) (fun hR => ?_)
    · skip
      refine WP.seq <| WP.region <| v0 (S0.assign rfl) rfl <| vE <| WP.ret <| ?_  -- ret
      refine r1 rfl rfl ⟨?_, rfl⟩
      have : rightS t = false := by simpa using hR
      simp [matchS, this]
    · skip
      have hR : rightS t = true := by simpa using hR
      have htl := levels_len t
      have hFl : filtL (levels f) = true := by simp [filtS] at hF; exact hF.2
      have em : matchS f t = ((rowL (levels f) (levels t).length).2 && rowOk (rowL (levels f) (levels t).length).1 (levels t)) := by
        rw [matchS, hF, hR, matchL_row _ _ hFl (levels_ne f)]; rfl
      have hrl := rowL_len (l := levels f) (n := (levels t).length)
      rw [em]
      refine WP.skip <| WP.seq <| WP.region <| v0 (S0.move rfl) rfl <| ?_  -- op t18 := call F44{rivulet/rivuletref03.Levels}(t17)
      refine vc (S1.callF rfl (rlevels_spec (by omega)) take0) rfl ?_
      rintro _ _ ⟨rt, hst, rfl⟩
      refine app ?_
      obtain ⟨at', ct, rfl, -, hrt⟩ := hst.strsE
      refine v0 (S0.assign rfl) rfl <| vE <| WP.seq <| WP.region <| v0 (S0.move rfl) rfl <| v0 (S0.move rfl) rfl <| v0 (S0.lenSl rfl) rfl <| ?_  -- op t23 := call F74{rivulet/rivuletref03.Row}(t20, t22)
      refine vc (S1.callF rfl (rrow_spec (n := (levels t).length) (show f.length ≤ 900000 by omega) (by omega)) take0) rfl ?_
      rintro _ _ ⟨rv, rf, hsf, rfl, rfl⟩
      refine app ?_
      generalize (rowL (levels f) (levels t).length).2 = q at hrl
      generalize (rowL (levels f) (levels t).length).1 = F at hrl hsf
      obtain ⟨af, cf, rfl, -, hrf⟩ := hsf.strsE
      refine v0 (S0.move rfl) rfl <| v0 (S0.extract rfl rfl) rfl <| v0 (S0.extract rfl rfl) rfl <| v0 (S0.assign rfl) rfl <| v0 (S0.assign rfl) rfl <| vE <| WP.seq <| WP.seq <| WP.region <| v0 (S0.assign rfl) rfl <| vE <| WP.block <| ?_  -- Code.loop
      refine WP.loop (fun st : Nat × Bool => st.1 ≤ (levels t).length ∧ (st.2 = true → q = true ∧ ∀ j x y, j < st.1 → F[j]? = some x → (levels t)[j]? = some y → (decide (x = [43]) || decide (x = y)) = true) ∧ (st.2 = false → (q && rowOk F (levels t)) = false)) (fun st : Nat × Bool => [(5, .slice at' (levels t).length ct), (6, .slice af F.length cf), (7, .bool st.2), (8, .int .i64 (st.1 : Int))]) (fun st : Nat × Bool => [rf, rt]) (fun st : Nat × Bool => (levels t).length - st.1) ((0, q)) (⟨Nat.zero_le _, fun e => ⟨e, fun j x y hj => by omega⟩, fun e => by simp at e; simp [e]⟩) ⟨rfl, rfl, rfl, rfl, trivial⟩ ⟨_, (take1 at0 (take1 at0 take0))⟩ (fun st hinv => ?_) 
      obtain ⟨i, is⟩ := st
      obtain ⟨hi, htr, hfa⟩ := hinv
      dsimp only at hi htr hfa ⊢
      refine WP.seq <| WP.seq <| WP.region <| v0 (S0.move rfl) rfl <| v0 (S0.move rfl) rfl <| v0 (S0.lenSl rfl) rfl <| v0 (S0.cmp rfl rfl rfl) rfl <| v0 (S0.move rfl) rfl <| ?_  -- guard t30 (wants True) at t31 := move t7 [if #4=True]
      first | refine csP (t := 30) rfl (fun h1 => ?_) (fun h1 => ?_) | refine csN (t := 30) rfl (fun h1 => ?_) (fun h1 => ?_) | refine cs (t := 30) rfl (fun h1 => ?_) (fun h1 => ?_)
      · skip
        refine gT rfl <| v0 (S0.move rfl) rfl <| v0 (S0.pickT rfl rfl) rfl <| vE <| ?_  -- cond
        skip
        cases is with
        | true =>
          skip
          obtain ⟨rfl, hok⟩ := htr rfl
          have hFl := hrl rfl
          have hlt : i < (levels t).length := by omega
          have hlt2 : i < F.length := by omega
          rcases hrf with ⟨e, -⟩ | ⟨b1, sp1, rfl, rfl, hsp1⟩
          · rw [e] at hlt2; simp at hlt2
          rcases hrt with ⟨e, -⟩ | ⟨b2, sp2, rfl, rfl, hsp2⟩
          · rw [e] at hlt; simp at hlt
          have hx : F[i]? = some F[i] := by simp [hlt2]
          have hy : (levels t)[i]? = some (levels t)[i] := by simp [hlt]
          generalize F[i] = x at hx
          generalize (levels t)[i] = y at hy
          have hbad : (decide (x = [43]) || decide (x = y)) = false → (true && rowOk F (levels t)) = false := fun e => by rw [rowOk_take F _ i x y hx hy e]; rfl
          have hgood : (decide (x = [43]) || decide (x = y)) = true → ∀ (j : Nat) (x y : Str), j < i + 1 → F[j]? = some x → (levels t)[j]? = some y → (decide (x = [43]) || decide (x = y)) = true := fun e j x' y' hj hx' hy' => by
            by_cases ej : j = i
            · subst ej; rw [hx] at hx'; rw [hy] at hy'; cases hx'; cases hy'; exact e
            · exact hok j x' y' (by omega) hx' hy'
          refine WP.condTh rfl (rfl) ?_
          skip
          refine WP.skip <| WP.seq <| WP.block <| WP.drawP [(0, none), (1, none), (2, none), (3, none), (4, none), (5, none), (6, none), (7, none), (8, none), (9, none), (10, none), (11, none), (12, none), (13, none), (14, none), (15, none), (16, none)] mixed (by kernel_rfl) (by kernel_rfl) (by kernel_rfl) (take1 at0 (take1 at0 take0)) <| w0 rfl rfl rfl (S0.move rfl) rfl <| w0 rfl rfl rfl (S0.move rfl) rfl <| ?_  -- op t37 := indexAddr 23 t35 t36
          refine w0 rfl rfl rfl (S0.index1 rfl rfl hlt2) rfl <| ?_
          refine w0 rfl rfl rfl (S0.load rfl (strs_get hx)) rfl <| ?_
          refine w0 rfl rfl rfl (S0.cmpS rfl rfl rfl) rfl <| w0 rfl rfl rfl (S0.move rfl) rfl <| ?_  -- guard t40 (wants False) at t41 := move t6 [if #5=False]
          first | refine wcsP (t := 40) rfl (fun h2 => ?_) (fun h2 => ?_) | refine wcsN (t := 40) rfl (fun h2 => ?_) (fun h2 => ?_) | refine wcs (t := 40) rfl (fun h2 => ?_) (fun h2 => ?_)
          · skip
            refine wF rfl rfl rfl rfl <| wF rfl rfl rfl rfl <| wF rfl rfl rfl rfl <| wF rfl rfl rfl rfl <| wF rfl rfl rfl rfl <| wF rfl rfl rfl rfl <| wF rfl rfl rfl rfl <| wF rfl rfl rfl rfl <| wF rfl rfl rfl rfl <| w0 rfl rfl rfl (S0.pickT rfl rfl) rfl <| w0 rfl rfl rfl (S0.assign rfl) rfl <| wE <| WP.region <| v0 (S0.move rfl) rfl <| v0 (S0.ari rfl rfl rfl (wrap_i64 (by omega))) rfl <| v0 (S0.assign rfl) rfl <| vE <| ?_  -- roundend
            exact ⟨(i + 1, true), (by first | exact ⟨hlt, fun _ => ⟨rfl, hgood (by simp [h2])⟩, fun e => by cases e⟩ | (dsimp only; exact ⟨hlt, fun _ => ⟨rfl, hgood (by simp [h2])⟩, fun e => by cases e⟩)), (show (levels t).length - (i + 1) < (levels t).length - i by omega), ⟨⟨rfl, rfl, rfl, rfl, trivial⟩, rfl, rfl⟩, ⟨_, (take1 at0 (take1 at0 take0))⟩⟩
          · skip
            refine w0 rfl rfl rfl (S0.move rfl) rfl <| w0 rfl rfl rfl (S0.move rfl) rfl <| ?_  -- op t43 := indexAddr 23 t41 t42 [if #5=False]
            refine w0 rfl rfl rfl (S0.index1 rfl rfl hlt2) rfl <| ?_
            refine w0 rfl rfl rfl (S0.load rfl (strs_get hx)) rfl <| ?_
            refine w0 rfl rfl rfl (S0.move rfl) rfl <| w0 rfl rfl rfl (S0.move rfl) rfl <| ?_  -- op t47 := indexAddr 23 t45 t46 [if #5=False]
            refine w0 rfl rfl rfl (S0.index1 rfl rfl hlt) rfl <| ?_
            refine w0 rfl rfl rfl (S0.load rfl (strs_get hy)) rfl <| ?_
            refine w0 rfl rfl rfl (S0.cmpS rfl rfl rfl) rfl <| w0 rfl rfl rfl (S0.pickF rfl rfl) rfl <| w0 rfl rfl rfl (S0.assign rfl) rfl <| wE <| WP.region <| v0 (S0.move rfl) rfl <| v0 (S0.ari rfl rfl rfl (wrap_i64 (by omega))) rfl <| v0 (S0.assign rfl) rfl <| vE <| ?_  -- roundend
            exact ⟨(i + 1, decide (x = y)), (by first | exact ⟨hlt, fun e => ⟨rfl, hgood (by simp at e; simp [e])⟩, fun e => hbad (by simp at e; simp [e, h2])⟩ | (dsimp only; exact ⟨hlt, fun e => ⟨rfl, hgood (by simp at e; simp [e])⟩, fun e => hbad (by simp at e; simp [e, h2])⟩)), (show (levels t).length - (i + 1) < (levels t).length - i by omega), ⟨⟨rfl, rfl, rfl, rfl, trivial⟩, rfl, rfl⟩, ⟨_, (take1 at0 (take1 at0 take0))⟩⟩
        | false =>
          skip
          refine WP.condFh rfl (rfl) ?_
          refine WP.exit <| WP.seq <| WP.region <| v0 (S0.move rfl) rfl <| v0 (S0.assign rfl) rfl <| vE <| WP.ret <| ?_  -- ret
          refine Leaves.drop take0 ?_
          refine r1 rfl rfl ⟨?_, rfl⟩
          rw [hfa rfl]
      · skip
        refine gF rfl rfl <| v0 (S0.pickF rfl rfl) rfl <| vE <| WP.condF rfl <| WP.exit <| WP.seq <| WP.region <| v0 (S0.move rfl) rfl <| v0 (S0.assign rfl) rfl <| vE <| WP.ret <| ?_  -- ret
        refine Leaves.drop take0 ?_
        refine r1 rfl rfl ⟨?_, rfl⟩
        cases is with
        | true =>
          obtain ⟨rfl, hok⟩ := htr rfl
          rw [rowOk_all F (levels t) fun j x y hx hy => hok j x y (by have := (List.getElem?_eq_some_iff.1 hy).1; omega) hx hy]
          rfl
        | false => rw [hfa rfl]
end Go.Proofs.YtipljeomgdomnaaGreatDoor
/- OrderA -/
namespace Go.Proofs.YtipljeomgdomnaaGreatDoor
open Go

theorem nan_spec (x : Str) : FN Tryz.prog 118 [sv x] [] (is (.bool false) []) := by
  refine FN.intro 6 [(0, sv x)] Tryz.func118 rfl (enters Tryz.func118 (by kernel_rfl) rfl) Tryz.ntmps118 rfl rfl ?_
  refine WP.seq <| WP.region <| v0 (S0.assign rfl) rfl <| vE <| WP.seq <| WP.region <| v0 (S0.move rfl) rfl <| v0 (S0.move rfl) rfl <| v0 (S0.cmpS rfl rfl rfl) rfl <| v0 (S0.assign rfl) rfl <| vE <| WP.ret <| ?_
  refine r1 rfl rfl ⟨?_, rfl⟩
  exact congrArg Value.bool (by simp)
theorem cmpT_by {x y : Str} {n : Int} (h : (ltS x y = true ∧ n = -1) ∨ (ltS x y = false ∧ x = y ∧ n = 0) ∨ (ltS x y = false ∧ x ≠ y ∧ n = 1)) : n = cmpT x y := by
  unfold cmpT
  rcases h with ⟨h, rfl⟩ | ⟨h, rfl, rfl⟩ | ⟨h, h2, rfl⟩
  · simp [h]
  · simp [h]
  · simp [h, h2]
theorem cmpT_spec (x y : Str) : FN Tryz.prog 100 [sv x, sv y] [] (is (.int .i64 (cmpT x y)) []) := by
  refine FN.intro 20 [(0, sv x), (1, sv y)] Tryz.func100 rfl (enters Tryz.func100 (by kernel_rfl) rfl) Tryz.ntmps100 rfl rfl ?_
  refine WP.seq <| WP.region <| v0 (S0.assign rfl) rfl <| vE <| WP.seq <| WP.region <| v0 (S0.move rfl) rfl <| ?_  -- op t8 := call F118{cmp.isNaN[string]}(t7)
  refine vcd (S1.callF rfl (nan_spec x) take0) rfl ?_
  refine v0 (S0.assign rfl) rfl <| vE <| WP.seq <| WP.region <| v0 (S0.move rfl) rfl <| ?_  -- op t10 := call F118{cmp.isNaN[string]}(t9)
  refine vcd (S1.callF rfl (nan_spec y) take0) rfl ?_
  refine v0 (S0.assign rfl) rfl <| vE <| WP.seq <| WP.seq <| WP.region <| v0 (S0.move rfl) rfl <| vE <| ?_
  first | refine WP.condP rfl (fun hq0 => ?_) (fun hq0 => ?_) | refine WP.condN rfl (fun hq0 => ?_) (fun hq0 => ?_) | refine WP.cond rfl (fun hq0 => ?_) (fun hq0 => ?_)
  ·
    refine WP.seq <| WP.seq <| WP.region <| v0 (S0.move rfl) rfl <| vE <| ?_
    first | refine WP.condP rfl (fun hq1 => ?_) (fun hq1 => ?_) | refine WP.condN rfl (fun hq1 => ?_) (fun hq1 => ?_) | refine WP.cond rfl (fun hq1 => ?_) (fun hq1 => ?_)
    ·
      refine WP.seq <| WP.region <| v0 (S0.assign rfl) rfl <| vE <| WP.ret <| ?_
      refine r1 rfl rfl ⟨?_, rfl⟩
      exact congrArg (Value.int .i64) (cmpT_by (by simp_all))
    ·
      refine WP.skip <| WP.seq <| WP.region <| v0 (S0.assign rfl) rfl <| vE <| WP.ret <| ?_
      refine r1 rfl rfl ⟨?_, rfl⟩
      exact congrArg (Value.int .i64) (cmpT_by (by simp_all))
  ·
    refine WP.skip <| WP.seq <| WP.seq <| WP.region <| v0 (S0.move rfl) rfl <| vE <| ?_
    first | refine WP.condP rfl (fun hq1 => ?_) (fun hq1 => ?_) | refine WP.condN rfl (fun hq1 => ?_) (fun hq1 => ?_) | refine WP.cond rfl (fun hq1 => ?_) (fun hq1 => ?_)
    ·
      refine WP.seq <| WP.region <| v0 (S0.assign rfl) rfl <| vE <| WP.ret <| ?_
      refine r1 rfl rfl ⟨?_, rfl⟩
      exact congrArg (Value.int .i64) (cmpT_by (by simp_all))
    ·
      refine WP.skip <| WP.seq <| WP.seq <| WP.region <| v0 (S0.move rfl) rfl <| v0 (S0.move rfl) rfl <| v0 (S0.cmpS rfl rfl rfl) rfl <| vE <| ?_
      first | refine WP.condP rfl (fun hq2 => ?_) (fun hq2 => ?_) | refine WP.condN rfl (fun hq2 => ?_) (fun hq2 => ?_) | refine WP.cond rfl (fun hq2 => ?_) (fun hq2 => ?_)
      ·
        refine WP.seq <| WP.region <| v0 (S0.assign rfl) rfl <| vE <| WP.ret <| ?_
        refine r1 rfl rfl ⟨?_, rfl⟩
        exact congrArg (Value.int .i64) (cmpT_by (by simp_all))
      ·
        refine WP.skip <| WP.seq <| WP.seq <| WP.region <| v0 (S0.move rfl) rfl <| v0 (S0.move rfl) rfl <| v0 (S0.cmpS rfl rfl rfl) rfl <| vE <| ?_
        first | refine WP.condP rfl (fun hq3 => ?_) (fun hq3 => ?_) | refine WP.condN rfl (fun hq3 => ?_) (fun hq3 => ?_) | refine WP.cond rfl (fun hq3 => ?_) (fun hq3 => ?_)
        ·
          refine WP.seq <| WP.region <| v0 (S0.assign rfl) rfl <| vE <| WP.ret <| ?_
          refine r1 rfl rfl ⟨?_, rfl⟩
          exact congrArg (Value.int .i64) (cmpT_by (by simp_all))
        ·
          refine WP.skip <| WP.seq <| WP.region <| v0 (S0.assign rfl) rfl <| vE <| WP.ret <| ?_
          refine r1 rfl rfl ⟨?_, rfl⟩
          exact congrArg (Value.int .i64) (cmpT_by (by simp_all))
theorem cmpL_drop {A B : List Str} {i : Nat} {x y : Str} (hx : A[i]? = some x) (hy : B[i]? = some y) (h : cmpT x y = 0) : cmpL (A.drop i) (B.drop i) = cmpL (A.drop (i + 1)) (B.drop (i + 1)) := by
  rw [drop_cons hx, drop_cons hy]
  simp [cmpL, h]
theorem compare_spec {va vb : Value} {A B : List Str} {ca cb : List Blk} (ha : RdS va A ca) (hb : RdS vb B cb) (hl : A.length ≤ 1000000) : FN Tryz.prog 86 [va, vb] [ca, cb] (is (.int .i64 (cmpL A B)) [ca, cb]) := by
  obtain ⟨a, cap, rfl, hcap, ha⟩ := ha
  obtain ⟨b, cap2, rfl, hcap2, hb⟩ := hb
  refine FN.intro 36 [(0, .slice a A.length cap), (1, .slice b B.length cap2)] Tryz.func86 rfl (enters Tryz.func86 (by kernel_rfl) rfl) Tryz.ntmps86 rfl rfl ?_
  refine WP.seq <| WP.region <| v0 (S0.assign rfl) rfl <| vE <| WP.seq <| WP.seq <| WP.region <| v0 (S0.move rfl) rfl <| v0 (S0.lenSl rfl) rfl <| v0 (S0.move rfl) rfl <| vE <| WP.block <| ?_  -- Code.loop
  refine WP.loop (fun i : Nat => i ≤ A.length ∧ i ≤ B.length ∧ cmpL A B = cmpL (A.drop i) (B.drop i)) (fun i : Nat => [(0, .slice a A.length cap), (1, .slice b B.length cap2), (9, .slice a A.length cap), (10, .int .i64 (A.length : Int)), (11, .int .i64 (i : Int))]) (fun i : Nat => [ca, cb]) (fun i : Nat => A.length - i) (0) (⟨Nat.zero_le _, Nat.zero_le _, by simp⟩) ⟨rfl, rfl, rfl, rfl, rfl, trivial⟩ ⟨_, (take1 at0 (take1 at0 take0))⟩ (fun i hinv => ?_) 
  obtain ⟨hi, hi2, hinv⟩ := hinv
  refine WP.seq <| WP.region <| v0 (S0.cmp rfl rfl rfl) rfl <| vE <| WP.seq <| ?_  -- cond
  first | refine WP.condP rfl (fun h1 => ?_) (fun h1 => ?_) | refine WP.condN rfl (fun h1 => ?_) (fun h1 => ?_) | refine WP.cond rfl (fun h1 => ?_) (fun h1 => ?_)
  · skip
    have hlt : i < A.length := by omega
    rcases ha with e | ⟨b1, o1, L1, U1, fz1, rfl, hm1, he1⟩
    · rw [e] at hlt; simp at hlt
    have : HasC ca b1 (.cells ⟨L1⟩ U1 fz1) := ⟨hm1⟩
    have hx : A[i]? = some A[i] := by simp [hlt]
    generalize A[i] = x at hx
    have hxe := he1 i x hx
    skip
    refine WP.skip <| WP.seq <| WP.block <| WP.seq <| WP.region <| v0 (S0.move rfl) rfl <| ?_  -- op t14 := indexAddr 23 t9 t11
    refine v0 (S0.indexO1 rfl rfl hlt) rfl <| ?_
    refine v0 (S0.load rfl (rdS_get hxe)) rfl <| ?_
    refine v0 (S0.assign rfl) rfl <| v0 (S0.assign rfl) rfl <| vE <| WP.seq <| WP.seq <| WP.region <| v0 (S0.move rfl) rfl <| v0 (S0.move rfl) rfl <| v0 (S0.lenSl rfl) rfl <| v0 (S0.cmp rfl rfl rfl) rfl <| vE <| ?_  -- cond
    first | refine WP.condP rfl (fun h2 => ?_) (fun h2 => ?_) | refine WP.condN rfl (fun h2 => ?_) (fun h2 => ?_) | refine WP.cond rfl (fun h2 => ?_) (fun h2 => ?_)
    · skip
      refine WP.seq <| WP.region <| v0 (S0.assign rfl) rfl <| vE <| WP.ret <| ?_  -- ret
      refine r1 rfl rfl ⟨?_, rfl⟩
      have h2' : B.drop i = [] := List.drop_eq_nil_of_le (by omega)
      rw [hinv, h2', drop_cons hx]; rfl
    · skip
      have hlt2 : i < B.length := by omega
      rcases hb with e | ⟨b2, o2, L2, U2, fz2, rfl, hm2, he2⟩
      · rw [e] at hlt2; simp at hlt2
      have : HasC cb b2 (.cells ⟨L2⟩ U2 fz2) := ⟨hm2⟩
      have hy : B[i]? = some B[i] := by simp [hlt2]
      generalize B[i] = y at hy
      have hye := he2 i y hy
      refine WP.skip <| WP.seq <| WP.region <| v0 (S0.move rfl) rfl <| v0 (S0.move rfl) rfl <| ?_  -- op t22 := indexAddr 23 t20 t21
      refine v0 (S0.indexO1 rfl rfl hlt2) rfl <| ?_
      refine v0 (S0.load rfl (rdS_get hye)) rfl <| ?_
      refine v0 (S0.assign rfl) rfl <| vE <| WP.seq <| WP.region <| v0 (S0.move rfl) rfl <| v0 (S0.move rfl) rfl <| ?_  -- op t26 := call F100{cmp.Compare[string]}(t24, t25)
      refine vcd (S1.callF rfl (cmpT_spec x y) take0) rfl ?_
      refine v0 (S0.assign rfl) rfl <| vE <| WP.seq <| WP.region <| v0 (S0.move rfl) rfl <| v0 (S0.cmp rfl rfl rfl) rfl <| vE <| ?_  -- cond
      first | refine WP.condP rfl (fun h3 => ?_) (fun h3 => ?_) | refine WP.condN rfl (fun h3 => ?_) (fun h3 => ?_) | refine WP.cond rfl (fun h3 => ?_) (fun h3 => ?_)
      · skip
        refine WP.seq <| WP.region <| v0 (S0.move rfl) rfl <| v0 (S0.assign rfl) rfl <| vE <| WP.ret <| ?_  -- ret
        refine r1 rfl rfl ⟨?_, rfl⟩
        rw [hinv, drop_cons hx, drop_cons hy]
        simp [cmpL, h3]
      · skip
        refine WP.skip <| WP.region <| v0 (S0.ari rfl rfl rfl (wrap_i64 (by omega))) rfl <| v0 (S0.move rfl) rfl <| vE <| ?_  -- roundend
        exact ⟨i + 1, (by first | exact ⟨hlt, hlt2, by rw [hinv, cmpL_drop hx hy (by simpa using h3)]⟩ | (dsimp only; exact ⟨hlt, hlt2, by rw [hinv, cmpL_drop hx hy (by simpa using h3)]⟩)), (by omega), ⟨⟨rfl, rfl, rfl, rfl, rfl, trivial⟩, rfl, rfl⟩, ⟨_, (take1 at0 (take1 at0 take0))⟩⟩
  · skip
    have e : i = A.length := by omega
    have hd : A.drop i = [] := List.drop_eq_nil_of_le (by omega)
    rw [hd] at hinv
    refine WP.exit <| WP.seq <| WP.seq <| WP.region <| v0 (S0.move rfl) rfl <| v0 (S0.lenSl rfl) rfl <| v0 (S0.move rfl) rfl <| v0 (S0.lenSl rfl) rfl <| v0 (S0.cmp rfl rfl rfl) rfl <| vE <| ?_  -- cond
    first | refine WP.condP rfl (fun h2 => ?_) (fun h2 => ?_) | refine WP.condN rfl (fun h2 => ?_) (fun h2 => ?_) | refine WP.cond rfl (fun h2 => ?_) (fun h2 => ?_)
    · skip
      refine WP.seq <| WP.region <| v0 (S0.assign rfl) rfl <| vE <| WP.ret <| ?_  -- ret
      refine r1 rfl rfl ⟨?_, rfl⟩
      have hlt2 : i < B.length := by omega
      rw [hinv, List.drop_eq_getElem_cons hlt2]; rfl
    · skip
      refine WP.skip <| WP.seq <| WP.region <| v0 (S0.assign rfl) rfl <| vE <| WP.ret <| ?_  -- ret
      refine r1 rfl rfl ⟨?_, rfl⟩
      have h2' : B.drop i = [] := List.drop_eq_nil_of_le (by omega)
      rw [hinv, h2']; rfl
end Go.Proofs.YtipljeomgdomnaaGreatDoor
/- RdA -/
namespace Go.Proofs.YtipljeomgdomnaaGreatDoor
open Go

section
variable {P : Program} {r : Option Nat} {f : Fr} {h : Hp} {d : Option Tmp} {ty : TypeId} {p : String} {af : Array Edge} {gd : Option (Nat × Bool)} {T E T2 E2 : TypeId} {x y : Operand} {by_ : Nat} {zv v u : Value}
theorem rdS_all {L : List Value} {o : Nat} : ∀ {R : List Str}, (∀ i x, R[i]? = some x → (L.drop (o + i * 1)).take 1 = [sv x]) → R ≠ [] → (L.drop o).take (R.length * 1) = strs R ∧ o + R.length * 1 ≤ L.length := by
  intro R h hne
  have hlen : o + R.length ≤ L.length := by
    have hlt : R.length - 1 < R.length := by have := List.length_pos_iff.2 hne; omega
    have h1 := rdS_get (h (R.length - 1) R[R.length - 1] (by simp [hlt]))
    have := (List.getElem?_eq_some_iff.1 h1).1
    omega
  refine ⟨?_, by omega⟩
  apply List.ext_getElem?
  intro i
  by_cases hi : i < R.length
  · have h1 := rdS_get (h i R[i] (by simp [hi]))
    rw [List.getElem?_take_of_lt (by omega), List.getElem?_drop, h1]
    simp [strs, hi]
  · rw [List.getElem?_eq_none (by simp; omega), List.getElem?_eq_none (by simp [strs]; omega)]
/-- 'append(x, y...)': y read -/
theorem S1.appendRd {R : List Str} {l : List Value} {c0 c : List Blk} {hr : Hp} [kk : Und P T (.slice E)] [k2 : Und P T2 (.slice E2)] [ki : Inf P E 1 by_ zv]
    (hx : ev f x = some v) (hs : IsSl E 1 v l c) (hy : ev f y = some u) (hu : RdS u R c0) (hin : ∀ q ∈ c0, q ∈ h.flatten)
    (hp : h.flatten.Perm (c ++ hr.flatten)) (hz : zv.cells.size = 1) (hroom : l.length + R.length ≤ 1000000000) (hb : by_ ≤ 100000 := by decide) :
    S1 P r ⟨d, .call ⟨.builtin .append, #[x, y], #[T, T2]⟩, ty, p, af, gd⟩ f h (fun v' h' => ∃ c', IsSl E 1 v' (l ++ strs R) c' ∧ h' = c' :: hr) := by
  have hsl : (strs R).length = R.length := by simp [strs]
  have hrm : (l.length + (strs R).length) * by_ ≤ 140737488355328 ∧ l.length + (strs R).length < 4611686018427387904 := ⟨by
    rw [hsl]
    have := Nat.mul_le_mul hroom hb
    omega, by omega⟩
  obtain ⟨a, cap, rfl, hcap, hu⟩ := hu
  by_cases hR : R = []
  · subst hR
    simp only [strs, List.map_nil, List.append_nil]
    refine S1.ofRun (by intro c; simp) fun E' R' ρ w k' st => ?_
    have hexec : execOp ρ ⟨d, .call ⟨.builtin .append, #[x, y], #[T, T2]⟩, ty, p, af, gd⟩ = (do pure (.value (← Builtin.append_ #[T, T2] ty #[v, .slice a 0 cap]))) := by
      simp only [execOp, resolve, invoke, builtin]
      simp [k' _ _ hx, k' _ _ hy]
    have hf : (Builtin.firstCells 1 0 (.slice a 0 cap)).run P w = .ok ⟨[]⟩ w := by
      cases a <;> simp [Builtin.firstCells, loadCells, loadCellsFrom]
    refine ⟨v, _, w, ?_, ⟨c, hs, rfl⟩, by simpa using st.perm (hp.append_right R')⟩
    rw [hexec]
    obtain ⟨ab, n, cp, rfl, hle⟩ : ∃ ab n cp, v = .slice ab n cp ∧ n ≤ cp := by
      cases hs with
      | nil => exact ⟨_, _, _, rfl, Nat.le_refl _⟩
      | row _ _ h3 => exact ⟨_, _, _, rfl, h3⟩
    have := run_append_in (P := P) (ty := ty) (T := T) (T2 := T2) (E := E) (E2 := E2) (k := 1) (by_ := by_) (zv := zv) (w := w) (base := ab) (n := n) (c := cp) (m := 0) (ws := []) ⟨a, cap, rfl⟩ hf (by omega) (w' := w) (by cases ab <;> rfl)
    simp [this]
  · rcases hu with e | ⟨b, o, L, U, fz, rfl, hm, hel⟩
    · exact absurd e hR
    obtain ⟨h1, h2⟩ := rdS_all hel hR
    have h3 := S1.append (P := P) (r := r) (d := d) (ty := ty) (p := p) (af := af) (gd := gd) (T := T) (T2 := T2) (E2 := E2) (kk := kk) (k2 := k2) (ki := ki) (k := 0) hx hs hy (ws := strs R) (m := R.length) (.inr ⟨b, o, cap, L, U, fz, rfl, hin _ hm, h2, h1⟩) hp (strs_cv R) hz hrm
    exact ⟨fun E' R a w next Q hxx st kont => h3.run E' R a w next Q hxx st fun v h' w' hpost st' => by
      obtain ⟨c', h2, -, h3⟩ := hpost
      exact kont v h' w' ⟨c', h2, h3⟩ st'⟩
end
/-- blocks taken together -/
theorem FN.join {P : Program} {g : Nat} {args : List Value} {h h2 : Hp} {post : Value → Hp → Prop} (H : FN P g args h post) (he : h2.flatten = h.flatten) (post2 : Value → Hp → Prop) (hq : ∀ v h', post v h' → ∃ h'', post2 v h'' ∧ h''.flatten = h'.flatten) : FN P g args h2 post2 :=
  ⟨H.enters, fun E R w st => (H.run E R w (by rw [← he]; exact st)).mono fun _ _ ⟨v, h', e, hp, st'⟩ => by
    obtain ⟨h'', h1, h2⟩ := hq v h' hp
    exact ⟨v, h'', e, h1, by rw [h2]; exact st'⟩⟩

end Go.Proofs.YtipljeomgdomnaaGreatDoor
/- JoinS -/
namespace Go.Proofs.YtipljeomgdomnaaGreatDoor
open Go

instance : UnsP Tryz.prog 173 := ⟨by kernel_rfl⟩
/-- a builder: its block -/
abbrev bldO (v s : Value) : Obj := .cells ⟨[v, s]⟩ 146 (0, 0)
theorem copyCheck_spec {b : Nat} {s : Value} {v : Value} (hv : v = .pointer none ∨ v = .pointer (some ⟨b, 0, none⟩)) : FN Tryz.prog 136 [.pointer (some ⟨b, 0, none⟩)] [[(b, bldO v s)]] (is (.tuple #[]) [[(b, bldO (.pointer (some ⟨b, 0, none⟩)) s)]]) := by
  have key : ∀ o : Option Addr, (o = none ∨ o = some ⟨b, 0, none⟩) → FN Tryz.prog 136 [.pointer (some ⟨b, 0, none⟩)] [[(b, bldO (.pointer o) s)]] (is (.tuple #[]) [[(b, bldO (.pointer (some ⟨b, 0, none⟩)) s)]]) := fun o ho => by
    refine FN.intro 20 [(0, .pointer (some ⟨b, 0, none⟩))] Tryz.func136 rfl (enters Tryz.func136 (by kernel_rfl) rfl) Tryz.ntmps136 rfl rfl ?_
    skip
    rcases ho with rfl | rfl
    · skip
      refine WP.seq <| WP.region <| v0 (S0.move rfl) rfl <| v0 (S0.nilCheck rfl) rfl <| v0 (S0.fieldAddr rfl) rfl <| v0 (S0.load rfl rfl) rfl <| v0 (S0.nilP rfl rfl rfl rfl) rfl <| vE <| ?_  -- cond
      refine WP.condTh rfl (rfl) ?_
      refine WP.region <| v0 (S0.move rfl) rfl <| v0 (S0.move rfl) rfl <| ?_  -- op t9 := convert 143 173 t8
      refine v0 (S0.toUnsafe rfl (by simp)) rfl <| ?_
      refine v1 (S1.noEscape Tryz.func145 (by kernel_rfl) (by kernel_rfl) (by kernel_rfl) (by kernel_rfl) rfl) rfl <| ?_
      refine v0 (S0.fromUnsafe rfl (by kernel_rfl)) rfl <| ?_
      refine v0 (S0.nilCheck rfl) rfl <| v0 (S0.fieldAddr rfl) rfl <| vs (S1.store rfl rfl (by first | rfl | exact IsSl.cv (by assumption))) <| vE <| ?_  -- fnend
      refine r0 rfl ⟨?_, rfl⟩
      rfl
    · skip
      refine WP.seq <| WP.region <| v0 (S0.move rfl) rfl <| v0 (S0.nilCheck rfl) rfl <| v0 (S0.fieldAddr rfl) rfl <| v0 (S0.load rfl rfl) rfl <| v0 (S0.nilP rfl rfl rfl rfl) rfl <| vE <| ?_  -- cond
      refine WP.condFh rfl (rfl) ?_
      refine WP.seq <| WP.region <| v0 (S0.move rfl) rfl <| v0 (S0.nilCheck rfl) rfl <| v0 (S0.fieldAddr rfl) rfl <| v0 (S0.load rfl rfl) rfl <| v0 (S0.move rfl) rfl <| ?_  -- limit
      refine v0 (S0.neqSelf rfl rfl) rfl <| ?_
      refine vE <| ?_  -- cond
      refine WP.condFh rfl (rfl) ?_
      refine WP.skip <| ?_  -- fnend
      refine r0 rfl ⟨?_, rfl⟩
      rfl
  rcases hv with rfl | rfl
  · exact key none (.inl rfl)
  · exact key _ (.inr rfl)
theorem bgrow_spec {b n : Nat} {v : Value} (hn : n ≤ 1000000000) : FN Tryz.prog 137 [.pointer (some ⟨b, 0, none⟩), .int .i64 (n : Int)] [[(b, bldO v (.slice none 0 0))]]
    (fun u h => ∃ g cs, n ≤ cs.length ∧ u = .tuple #[] ∧ h = [[(b, bldO v (.slice (some ⟨g, 0, none⟩) 0 cs.length))], [(g, .cells ⟨cs⟩ 5 (0, 0))]]) := by
  refine FN.intro 30 [(0, .pointer (some ⟨b, 0, none⟩)), (1, .int .i64 (n : Int))] Tryz.func137 rfl (enters Tryz.func137 (by kernel_rfl) rfl) Tryz.ntmps137 rfl rfl ?_
  skip
  refine WP.seq <| WP.drawP [(0, none), (1, none), (2, none), (3, none), (4, none), (5, none), (6, none), (7, none), (9, none), (10, none), (11, none), (12, none), (13, none), (8, none), (14, none), (15, none)] mixed (by kernel_rfl) (by kernel_rfl) (by kernel_rfl) (take1 at0 take0) <| w0 rfl rfl rfl (S0.move rfl) rfl <| w0 rfl rfl rfl (S0.nilCheck rfl) rfl <| w0 rfl rfl rfl (S0.fieldAddr rfl) rfl <| w0 rfl rfl rfl (S0.load rfl rfl) rfl <| w0 rfl rfl rfl (S0.capSl rfl) rfl <| w0 rfl rfl rfl (S0.ari rfl rfl rfl (wrap_i64 (by omega))) rfl <| w0 rfl rfl rfl (S0.move rfl) rfl <| w0 rfl rfl rfl (S0.ari rfl rfl rfl (wrap_i64 (by omega))) rfl <| w0 rfl rfl rfl (S0.move rfl) rfl <| w0 rfl rfl rfl (S0.nilCheck rfl) rfl <| w0 rfl rfl rfl (S0.fieldAddr rfl) rfl <| w0 rfl rfl rfl (S0.load rfl rfl) rfl <| w0 rfl rfl rfl (S0.lenSl rfl) rfl <| ?_  -- op t13 := call F146{internal/bytealg.MakeNoZero}(t12)
  rw [show (2 : Int) * ((0 : Nat) : Int) + (n : Int) = (n : Int) by omega]
  refine we rfl rfl rfl rfl (S1.makeNoZero (n := n) (ps := #[3]) (T := 144) (E := 5) Tryz.func146 (by kernel_rfl) (by kernel_rfl) (by kernel_rfl) (by kernel_rfl) rfl hn) rfl ?_
  rintro _ _ ⟨g, cs, hcs, rfl, rfl⟩
  -- (nothing to walk: op t19 := slice 144 t13 none t18 none)
  refine w0 rfl rfl rfl (S0.slice (i := 0) (j := 0) rfl rfl rfl ⟨by omega, by omega⟩) rfl <| ?_
  rw [show (if cs.length = 0 then 0 else 0 + 0 * 1) = 0 by split <;> rfl]
  refine w0 rfl rfl rfl (S0.assign rfl) rfl <| wE <| WP.seq <| WP.region <| v0 (S0.move rfl) rfl <| v0 (S0.move rfl) rfl <| v0 (S0.nilCheck rfl) rfl <| v0 (S0.fieldAddr rfl) rfl <| v0 (S0.load rfl rfl) rfl <| ?_  -- op t25 := copy(t20, t24) :[144, 144]
  refine v1 (S1.copyNil rfl rfl) rfl <| ?_
  refine vE <| WP.region <| v0 (S0.move rfl) rfl <| v0 (S0.move rfl) rfl <| v0 (S0.nilCheck rfl) rfl <| v0 (S0.fieldAddr rfl) rfl <| vs (S1.store rfl rfl (by first | rfl | exact IsSl.cv (by assumption))) <| vE <| ?_  -- fnend
  refine r0 rfl ?_
  exact ⟨g, cs, hcs, rfl, rfl⟩
theorem bGrow_spec {b n : Nat} (hn : n ≤ 1000000000) (h0 : 0 < n) : FN Tryz.prog 115 [.pointer (some ⟨b, 0, none⟩), .int .i64 (n : Int)] [[(b, bldO (.pointer none) (.slice none 0 0))]]
    (fun u h => ∃ g cs, n ≤ cs.length ∧ u = .tuple #[] ∧ h = [[(b, bldO (.pointer (some ⟨b, 0, none⟩)) (.slice (some ⟨g, 0, none⟩) 0 cs.length))], [(g, .cells ⟨cs⟩ 5 (0, 0))]]) := by
  refine FN.intro 25 [(0, .pointer (some ⟨b, 0, none⟩)), (1, .int .i64 (n : Int))] Tryz.func115 rfl (enters Tryz.func115 (by kernel_rfl) rfl) Tryz.ntmps115 rfl rfl ?_
  refine WP.seq <| WP.region <| v0 (S0.move rfl) rfl <| ?_  -- op t5 := call F136{(*strings.Builder).copyCheck}(t4)
  refine vcd (S1.callF rfl (copyCheck_spec (.inl rfl)) (take1 at0 take0)) rfl ?_
  refine vE <| WP.seq <| WP.seq <| WP.region <| v0 (S0.move rfl) rfl <| v0 (S0.cmp rfl rfl rfl) rfl <| vE <| ?_  -- cond
  refine WP.condFh rfl ((decide_eq_false (by omega))) ?_
  skip
  refine WP.skip <| WP.seq <| WP.drawP [(0, none), (1, none), (2, none), (3, none), (4, none), (5, none), (6, none), (7, none), (8, none), (9, none), (10, none), (11, none), (12, none)] mixed (by kernel_rfl) (by kernel_rfl) (by kernel_rfl) (take1 at0 take0) <| w0 rfl rfl rfl (S0.move rfl) rfl <| w0 rfl rfl rfl (S0.nilCheck rfl) rfl <| w0 rfl rfl rfl (S0.fieldAddr rfl) rfl <| w0 rfl rfl rfl (S0.load rfl rfl) rfl <| w0 rfl rfl rfl (S0.capSl rfl) rfl <| w0 rfl rfl rfl (S0.move rfl) rfl <| w0 rfl rfl rfl (S0.nilCheck rfl) rfl <| w0 rfl rfl rfl (S0.fieldAddr rfl) rfl <| w0 rfl rfl rfl (S0.load rfl rfl) rfl <| w0 rfl rfl rfl (S0.lenSl rfl) rfl <| w0 rfl rfl rfl (S0.ari rfl rfl rfl (wrap_i64 (by omega))) rfl <| w0 rfl rfl rfl (S0.move rfl) rfl <| w0 rfl rfl rfl (S0.cmp rfl rfl rfl) rfl <| wE <| ?_  -- cond
  refine WP.condTh rfl ((decide_eq_true (by omega))) ?_
  refine WP.region <| v0 (S0.move rfl) rfl <| v0 (S0.move rfl) rfl <| ?_  -- op t24 := call F137{(*strings.Builder).grow}(t22, t23)
  refine vc (S1.callF rfl (bgrow_spec hn) (take1 at0 take0)) rfl ?_
  rintro _ _ ⟨g, cs, hcs, rfl, rfl⟩
  refine app ?_
  refine vE <| ?_  -- fnend
  refine r0 rfl ?_
  exact ⟨g, cs, hcs, rfl, rfl⟩
theorem bWrite_spec {b g n c : Nat} {cur : List Value} {s : Str} (hr : n + s.length ≤ c) (hf : n + s.length ≤ cur.length) : FN Tryz.prog 116 [.pointer (some ⟨b, 0, none⟩), sv s] [[(b, bldO (.pointer (some ⟨b, 0, none⟩)) (.slice (some ⟨g, 0, none⟩) n c))], [(g, .cells ⟨cur⟩ 5 (0, 0))]]
    (is (.tuple ⟨[.int .i64 (s.length : Int), .nilIface]⟩) [[(b, bldO (.pointer (some ⟨b, 0, none⟩)) (.slice (some ⟨g, 0, none⟩) (n + s.length) c))], [(g, .cells ⟨cur.take n ++ bys s ++ cur.drop (n + s.length)⟩ 5 (0, 0))]]) := by
  refine FN.intro 19 [(0, .pointer (some ⟨b, 0, none⟩)), (1, sv s)] Tryz.func116 rfl (enters Tryz.func116 (by kernel_rfl) rfl) Tryz.ntmps116 rfl rfl ?_
  refine WP.seq <| WP.region <| v0 (S0.assign rfl) rfl <| v0 (S0.assign rfl) rfl <| vE <| WP.seq <| WP.region <| v0 (S0.move rfl) rfl <| ?_  -- op t7 := call F136{(*strings.Builder).copyCheck}(t6)
  refine vcd (S1.callF rfl (copyCheck_spec (.inr rfl)) (take1 at0 take0)) rfl ?_
  refine vE <| WP.seq <| WP.region <| v0 (S0.move rfl) rfl <| v0 (S0.move rfl) rfl <| v0 (S0.nilCheck rfl) rfl <| v0 (S0.fieldAddr rfl) rfl <| v0 (S0.load rfl rfl) rfl <| v0 (S0.move rfl) rfl <| ?_  -- op t14 := append(t12, t13) :[144, 9]
  refine v1 (S1.appendSt rfl rfl hr hf) rfl <| ?_
  refine v0 (S0.nilCheck rfl) rfl <| v0 (S0.fieldAddr rfl) rfl <| vs (S1.store rfl rfl (by first | rfl | exact IsSl.cv (by assumption))) <| vE <| WP.seq <| WP.region <| v0 (S0.move rfl) rfl <| v0 (S0.lenSt rfl) rfl <| v0 (S0.assign rfl) rfl <| v0 (S0.assign rfl) rfl <| vE <| WP.ret <| ?_  -- ret
  refine r2 rfl rfl rfl ⟨?_, rfl⟩
  rfl
theorem bString_spec {b g c : Nat} {sp : List Value} {l : Str} (h0 : l ≠ []) (hc : (bys l ++ sp).length = c) (hl : l.length ≤ 1000000000) : FN Tryz.prog 117 [.pointer (some ⟨b, 0, none⟩)] [[(b, bldO (.pointer (some ⟨b, 0, none⟩)) (.slice (some ⟨g, 0, none⟩) l.length c))], [(g, .cells ⟨bys l ++ sp⟩ 5 (0, 0))]]
    (is (sv l) []) := by
  have hc0 : c ≠ 0 := by
    have : 0 < l.length := List.length_pos_iff.2 h0
    rw [List.length_append, bys_len] at hc; omega
  refine FN.intro 14 [(0, .pointer (some ⟨b, 0, none⟩))] Tryz.func117 rfl (enters Tryz.func117 (by kernel_rfl) rfl) Tryz.ntmps117 rfl rfl ?_
  skip
  refine WP.seq <| WP.region <| v0 (S0.assign rfl) rfl <| vE <| WP.seq <| WP.drawP [(0, none), (1, none), (2, none), (3, none), (5, none), (6, none), (7, none), (8, none), (9, none), (4, none), (10, none), (11, none)] mixed (by kernel_rfl) (by kernel_rfl) (by kernel_rfl) (take1 at0 take0) <| w0 rfl rfl rfl (S0.move rfl) rfl <| w0 rfl rfl rfl (S0.nilCheck rfl) rfl <| w0 rfl rfl rfl (S0.fieldAddr rfl) rfl <| w0 rfl rfl rfl (S0.load rfl rfl) rfl <| w0 rfl rfl rfl (S0.move rfl) rfl <| w0 rfl rfl rfl (S0.nilCheck rfl) rfl <| w0 rfl rfl rfl (S0.fieldAddr rfl) rfl <| w0 rfl rfl rfl (S0.load rfl rfl) rfl <| w0 rfl rfl rfl (S0.lenSl rfl) rfl <| ?_  -- op t7 := unsafeSliceData(t6) :[144]
  refine w1 rfl rfl rfl rfl (S1.sliceData rfl hc0) rfl <| ?_
  refine w1 rfl rfl rfl rfl (S1.unsafeString rfl rfl h0 (by kernel_rfl) hl) rfl <| ?_
  refine w0 rfl rfl rfl (S0.assign rfl) rfl <| wE <| WP.ret <| ?_  -- ret
  refine Leaves.drop take0 ?_
  refine r1 rfl rfl ⟨?_, rfl⟩
  rfl
end Go.Proofs.YtipljeomgdomnaaGreatDoor
/- JoinT -/
namespace Go.Proofs.YtipljeomgdomnaaGreatDoor
open Go

theorem unl_snoc : ∀ (l : List Str) (x : Str), l ≠ [] → unl (l ++ [x]) = unl l ++ 47 :: x
  | [], _, h => absurd rfl h
  | [a], x, _ => by simp [unl]
  | a :: b :: l, x, _ => by
    have := unl_snoc (b :: l) x (by simp)
    simp only [List.cons_append] at this ⊢
    simp [unl, this]
def sumL (l : List Str) : Nat := (l.map (·.length)).sum
theorem sumL_snoc (l : List Str) (x : Str) : sumL (l ++ [x]) = sumL l + x.length := by simp [sumL]
theorem unl_len : ∀ (l : List Str), l ≠ [] → (unl l).length + 1 = sumL l + l.length
  | [], h => absurd rfl h
  | [a], _ => by simp [unl, sumL]
  | a :: b :: l, _ => by
    have := unl_len (b :: l) (by simp)
    simp only [unl, List.length_append, List.length_cons, sumL, List.map_cons, List.sum_cons] at this ⊢
    omega
theorem sumL_le {l : List Str} {m : Nat} (h : ∀ x ∈ l, x.length ≤ m) : sumL l ≤ l.length * m := by
  induction l with
  | nil => simp [sumL]
  | cons x l ih =>
    have h1 := h x (by simp)
    have h2 := ih fun y hy => h y (by simp [hy])
    simp only [sumL, List.map_cons, List.sum_cons, List.length_cons, Nat.succ_mul] at h2 ⊢
    omega
theorem sumL_take (l : List Str) (k : Nat) : sumL (l.take k) ≤ sumL l := by
  induction l generalizing k with
  | nil => simp [sumL]
  | cons x l ih =>
    cases k with
    | zero => simp [sumL]
    | succ k =>
      have := ih k
      simp only [List.take_succ_cons, sumL, List.map_cons, List.sum_cons] at this ⊢
      omega
theorem unl_take_le {A : List Str} (hne : A ≠ []) {k : Nat} (h0 : 0 < k) (hk : k ≤ A.length) : (unl (A.take k)).length ≤ (unl A).length := by
  have h1 := unl_len (A.take k) (by
    intro e
    have := congrArg List.length e
    rw [List.length_take, Nat.min_eq_left hk] at this
    simp at this; omega)
  have h2 := unl_len A hne
  have h3 := sumL_take A k
  rw [List.length_take, Nat.min_eq_left hk] at h1
  omega
theorem wr_bys (l s : Str) (sp : List Value) : (bys l ++ sp).take l.length ++ bys s ++ (bys l ++ sp).drop (l.length + s.length) = bys (l ++ s) ++ sp.drop s.length := by
  rw [bys_app]
  congr 1
  · rw [← bys_len l, List.take_left]
  · rw [← bys_len l, List.drop_append]
    simp
theorem join_spec0 {v : Value} {A : List Str} {c : List Blk} (hr : RdS v A c) (hl : A.length ≤ 1000) (hx : ∀ x ∈ A, x.length ≤ 100000) : FN Tryz.prog 99 [v, sv [47]] [c] (is (sv (unl A)) [c]) := by
  obtain ⟨a, cap, rfl, hcap, hr⟩ := hr
  refine FN.intro 75 [(0, .slice a A.length cap), (1, sv [47])] Tryz.func99 rfl (enters Tryz.func99 (by kernel_rfl) rfl) Tryz.ntmps99 rfl rfl ?_
  refine WP.seq <| WP.region <| v0 (S0.assign rfl) rfl <| vE <| WP.seq <| WP.seq <| WP.region <| v0 (S0.move rfl) rfl <| v0 (S0.lenSl rfl) rfl <| vE <| WP.block <| WP.seq <| WP.region <| v0 (S0.cmp rfl rfl rfl) rfl <| v0 (S0.assign rfl) rfl <| vE <| ?_  -- cond
  first | refine WP.condP rfl (fun h0 => ?_) (fun h0 => ?_) | refine WP.condN rfl (fun h0 => ?_) (fun h0 => ?_) | refine WP.cond rfl (fun h0 => ?_) (fun h0 => ?_)
  · skip
    have : A = [] := List.length_eq_zero_iff.1 (by omega)
    subst this
    refine WP.seq <| WP.region <| v0 (S0.assign rfl) rfl <| vE <| WP.ret <| ?_  -- ret
    refine r1 rfl rfl ⟨?_, rfl⟩
    rfl
  · skip
    have hne : A ≠ [] := fun e => h0 (by rw [e]; rfl)
    rcases hr with e | ⟨b1, o1, L1, U1, fz1, rfl, hm1, he1⟩
    · exact absurd e hne
    have : HasC c b1 (.cells ⟨L1⟩ U1 fz1) := ⟨hm1⟩
    obtain ⟨x0, A', hA⟩ := List.exists_cons_of_ne_nil hne
    refine WP.seq <| WP.region <| v0 (S0.cmp rfl rfl rfl) rfl <| v0 (S0.assign rfl) rfl <| vE <| ?_  -- cond
    first | refine WP.condP rfl (fun h1 => ?_) (fun h1 => ?_) | refine WP.condN rfl (fun h1 => ?_) (fun h1 => ?_) | refine WP.cond rfl (fun h1 => ?_) (fun h1 => ?_)
    · skip
      have : A' = [] := List.length_eq_zero_iff.1 (by rw [hA] at h1; simp at h1; omega)
      subst this
      subst hA
      refine WP.seq <| WP.region <| v0 (S0.move rfl) rfl <| ?_  -- op t18 := indexAddr 23 t17 0:i64
      refine v0 (S0.indexO1 (i := 0) rfl rfl (by simp)) rfl <| ?_
      refine v0 (S0.load rfl (rdS_get (he1 0 x0 rfl))) rfl <| ?_
      refine v0 (S0.assign rfl) rfl <| vE <| WP.ret <| ?_  -- ret
      refine r1 rfl rfl ⟨?_, rfl⟩
      rfl
    · skip
      have h2 : 2 ≤ A.length := by have := List.length_pos_iff.2 hne; omega
      have hq : (1 : Int) < Int.tdiv 9223372036854775807 ((A.length : Int) - 1) := by
        rw [Int.tdiv_eq_ediv_of_nonneg (by omega)]
        have : (2 : Int) ≤ 9223372036854775807 / ((A.length : Int) - 1) := by
          rw [Int.le_ediv_iff_mul_le (by omega)]; omega
        omega
      have hq2 : Int.tdiv 9223372036854775807 ((A.length : Int) - 1) ≤ 9223372036854775807 := by
        rw [Int.tdiv_eq_ediv_of_nonneg (by omega)]
        exact Int.ediv_le_self _ (by omega)
      have hsl := sumL_le hx
      have hsl2 : A.length * 100000 ≤ 100000000 := by omega
      refine WP.skip <| WP.seq <| WP.region <| v0 (S0.assign rfl) rfl <| vE <| WP.seq <| WP.seq <| WP.region <| v0 (S0.move rfl) rfl <| v0 (S0.lenSt rfl) rfl <| v0 (S0.cmp rfl rfl rfl) rfl <| vE <| ?_  -- cond
      refine WP.condTh rfl (rfl) ?_
      refine WP.seq <| WP.seq <| WP.region <| v0 (S0.move rfl) rfl <| v0 (S0.lenSt rfl) rfl <| v0 (S0.move rfl) rfl <| v0 (S0.lenSl rfl) rfl <| v0 (S0.ari rfl rfl rfl (wrap_i64 (by omega))) rfl <| ?_  -- op t28 := quo 9223372036854775807:i64 t27 :3
      refine v0 (S0.quo rfl rfl (by omega) (wrap_i64 (by omega))) rfl <| ?_
      refine v0 (S0.cmp rfl rfl rfl) rfl <| vE <| ?_  -- cond
      refine WP.condFh rfl ((decide_eq_false (by simp; omega))) ?_
      refine WP.skip <| WP.region <| v0 (S0.move rfl) rfl <| v0 (S0.move rfl) rfl <| v0 (S0.lenSt rfl) rfl <| v0 (S0.move rfl) rfl <| v0 (S0.lenSl rfl) rfl <| v0 (S0.ari rfl rfl rfl (wrap_i64 (by omega))) rfl <| ?_  -- limit
      have e47 : (([47] : Str).length : Int) * ((A.length : Int) - 1) = (A.length : Int) - 1 := by simp
      refine v0 (S0.ari (z' := (A.length : Int) - 1) rfl rfl rfl (by rw [e47]; exact wrap_i64 (by omega))) rfl <| ?_
      refine v0 (S0.ari (z' := ((A.length : Int) - 1) + (sumL (A.take 0) : Int)) rfl rfl rfl (by rw [wrap_i64 (by omega)]; simp [sumL])) rfl <| ?_
      refine v0 (S0.assign rfl) rfl <| vE <| WP.seq <| WP.seq <| WP.region <| v0 (S0.move rfl) rfl <| v0 (S0.lenSl rfl) rfl <| v0 (S0.move rfl) rfl <| vE <| WP.block <| ?_  -- Code.loop
      refine WP.loop (fun i : Nat => i ≤ A.length) (fun i : Nat => [(0, .slice (some ⟨b1, o1, none⟩) A.length cap), (1, sv [47]), (5, .int .i64 (((A.length : Int) - 1) + (sumL (A.take i) : Int))), (39, .slice (some ⟨b1, o1, none⟩) A.length cap), (40, .int .i64 (A.length : Int)), (41, .int .i64 (i : Int))]) (fun i : Nat => [c]) (fun i : Nat => A.length - i) (0) ((Nat.zero_le _)) ⟨rfl, rfl, rfl, rfl, rfl, rfl, trivial⟩ ⟨_, (take1 at0 take0)⟩ (fun i hinv => ?_) 
      refine WP.seq <| WP.region <| v0 (S0.cmp rfl rfl rfl) rfl <| vE <| WP.seq <| ?_  -- cond
      first | refine WP.condP rfl (fun h3 => ?_) (fun h3 => ?_) | refine WP.condN rfl (fun h3 => ?_) (fun h3 => ?_) | refine WP.cond rfl (fun h3 => ?_) (fun h3 => ?_)
      · skip
        have hlt : i < A.length := by omega
        have hy : A[i]? = some A[i] := by simp [hlt]
        have hyl := hx _ (List.getElem_mem hlt)
        generalize A[i] = y at hy hyl
        have htk : sumL (A.take (i + 1)) = sumL (A.take i) + y.length := by rw [List.take_add_one, hy]; exact sumL_snoc _ _
        have hle : sumL (A.take (i + 1)) ≤ A.length * 100000 := Nat.le_trans (sumL_le fun z hz => hx z (List.mem_of_mem_take hz)) (Nat.mul_le_mul_right _ (by simp; omega))
        refine WP.skip <| WP.seq <| WP.block <| WP.seq <| WP.region <| ?_  -- op t43 := indexAddr 23 t39 t41
        refine v0 (S0.indexO1 rfl rfl hlt) rfl <| ?_
        refine v0 (S0.load rfl (rdS_get (he1 i y hy))) rfl <| ?_
        refine v0 (S0.assign rfl) rfl <| vE <| WP.seq <| WP.seq <| WP.region <| v0 (S0.move rfl) rfl <| v0 (S0.lenSt rfl) rfl <| v0 (S0.move rfl) rfl <| v0 (S0.ari rfl rfl rfl (wrap_i64 (by omega))) rfl <| v0 (S0.cmp rfl rfl rfl) rfl <| vE <| ?_  -- cond
        refine WP.condFh rfl ((decide_eq_false (by omega))) ?_
        refine WP.skip <| WP.region <| v0 (S0.move rfl) rfl <| v0 (S0.move rfl) rfl <| v0 (S0.lenSt rfl) rfl <| ?_  -- limit
        refine v0 (S0.ari (z' := ((A.length : Int) - 1) + (sumL (A.take (i + 1)) : Int)) rfl rfl rfl (by rw [wrap_i64 (by omega)]; omega)) rfl <| ?_
        refine v0 (S0.assign rfl) rfl <| vE <| WP.region <| v0 (S0.ari rfl rfl rfl (wrap_i64 (by omega))) rfl <| v0 (S0.move rfl) rfl <| vE <| ?_  -- roundend
        exact ⟨i + 1, (by first | exact hlt | (dsimp only; exact hlt)), (by omega), ⟨⟨rfl, rfl, rfl, rfl, rfl, rfl, trivial⟩, rfl, rfl⟩, ⟨_, (take1 at0 take0)⟩⟩
      · skip
        have ei : i = A.length := by omega
        subst ei
        rw [List.take_length]
        have hul := unl_len A hne
        have en : ((A.length : Int) - 1) + (sumL A : Int) = ((unl A).length : Int) := by omega
        rw [en]
        refine WP.exit <| WP.seq <| WP.region <| vn (S1.alloc) rfl fun b8 => vE <| WP.seq <| WP.region <| v0 (S0.move rfl) rfl <| ?_  -- op t57 := call F115{(*strings.Builder).Grow}(t8, t56)
        refine vc (S1.callF rfl (bGrow_spec (n := (unl A).length) (by omega) (by omega)) (take1 at0 take0)) rfl ?_
        rintro _ _ ⟨g, cs, hcs, rfl, rfl⟩
        refine app ?_
        have hA0 : A[0]? = some x0 := by rw [hA]; rfl
        have htl : RdS _ A' c := RdS.tail (x := x0) (a := some ⟨b1, o1, none⟩) (n := A.length) (cap := cap) ⟨some ⟨b1, o1, none⟩, cap, by rw [hA], by rw [← hA]; exact hcap, .inr ⟨b1, o1, L1, U1, fz1, rfl, hm1, by rw [← hA]; exact he1⟩⟩
        obtain ⟨a2, cap2, e2, hcap2, hr2⟩ := htl
        have hAl : A.length = A'.length + 1 := by rw [hA]; rfl
        rcases hr2 with e | ⟨b2, o2, L2, U2, fz2, rfl, hm2, he2⟩
        · rw [e] at hAl; simp at hAl; omega
        have : HasC c b2 (.cells ⟨L2⟩ U2 fz2) := ⟨hm2⟩
        have ht1 : A.take 1 = [x0] := by rw [hA]; rfl
        have hu1 := unl_take_le hne (k := 1) (by omega) (by omega)
        rw [ht1] at hu1
        simp only [unl] at hu1
        refine vE <| WP.seq <| WP.region <| v0 (S0.move rfl) rfl <| ?_  -- op t59 := indexAddr 23 t58 0:i64
        refine v0 (S0.indexO1 (i := 0) rfl rfl (by omega)) rfl <| ?_
        refine v0 (S0.load rfl (rdS_get (he1 0 x0 hA0))) rfl <| ?_
        refine vcd (S1.callF rfl (bWrite_spec (n := 0) (by omega) (by omega)) (take1 at0 (take1 at0 take0))) rfl ?_
        have ew : cs.take 0 ++ bys x0 ++ cs.drop (0 + x0.length) = bys (unl (A.take (0 + 1))) ++ cs.drop x0.length := by rw [ht1]; simp [unl]
        rw [ew, show 0 + x0.length = (unl (A.take (0 + 1))).length by rw [ht1]; simp [unl]]
        refine vE <| WP.seq <| WP.seq <| WP.region <| v0 (S0.move rfl) rfl <| ?_  -- op t63 := slice 23 t62 1:i64 none none
        refine v0 (S0.sliceG (i := 1) rfl rfl rfl ⟨by omega, hcap⟩) rfl <| ?_
        rw [e2]
        refine v0 (S0.lenSl rfl) rfl <| v0 (S0.move rfl) rfl <| vE <| WP.block <| ?_  -- Code.loop
        refine WP.loop (fun st : Nat × List Value => st.1 ≤ A'.length ∧ (bys (unl (A.take (st.1 + 1))) ++ st.2).length = cs.length) (fun st : Nat × List Value => [(1, sv [47]), (8, .pointer (some ⟨b8, 0, none⟩)), (63, .slice (some ⟨b2, o2, none⟩) A'.length cap2), (64, .int .i64 (A'.length : Int)), (65, .int .i64 (st.1 : Int))]) (fun st : Nat × List Value => [[(b8, bldO (.pointer (some ⟨b8, 0, none⟩)) (.slice (some ⟨g, 0, none⟩) (unl (A.take (st.1 + 1))).length cs.length))], [(g, .cells ⟨bys (unl (A.take (st.1 + 1))) ++ st.2⟩ 5 (0, 0))], c]) (fun st : Nat × List Value => A'.length - st.1) ((0, cs.drop x0.length)) (⟨Nat.zero_le _, by rw [ht1]; simp [unl, bys_len]; omega⟩) ⟨rfl, rfl, rfl, rfl, rfl, trivial⟩ ⟨_, (take1 at0 (take1 at0 (take1 at0 take0)))⟩ (fun st hinv => ?_) 
        obtain ⟨j, sp⟩ := st
        obtain ⟨hj, hlen⟩ := hinv
        dsimp only at hj hlen ⊢
        refine WP.seq <| WP.region <| v0 (S0.cmp rfl rfl rfl) rfl <| vE <| WP.seq <| ?_  -- cond
        first | refine WP.condP rfl (fun h4 => ?_) (fun h4 => ?_) | refine WP.condN rfl (fun h4 => ?_) (fun h4 => ?_) | refine WP.cond rfl (fun h4 => ?_) (fun h4 => ?_)
        · skip
          have hlt : j < A'.length := by omega
          have hy : A'[j]? = some A'[j] := by simp [hlt]
          have hyA : A[j + 1]? = some A'[j] := by rw [hA]; simpa using hy
          generalize A'[j] = y at hy hyA
          have htk : A.take (j + 1 + 1) = A.take (j + 1) ++ [y] := by rw [List.take_add_one, hyA]; rfl
          have hne1 : A.take (j + 1) ≠ [] := by rw [hA]; simp
          have hu2 := unl_take_le hne (k := j + 1 + 1) (by omega) (by omega)
          have hus : unl (A.take (j + 1 + 1)) = (unl (A.take (j + 1)) ++ [47]) ++ y := by rw [htk, unl_snoc _ _ hne1]; simp
          rw [hus, List.length_append, List.length_append] at hu2
          have h47 : ([47] : Str).length = 1 := rfl
          generalize hU : unl (A.take (j + 1)) = l at hlen hu2 hus
          refine WP.skip <| WP.seq <| WP.block <| WP.seq <| WP.region <| ?_  -- op t67 := indexAddr 23 t63 t65
          refine v0 (S0.indexO1 rfl rfl hlt) rfl <| ?_
          refine v0 (S0.load rfl (rdS_get (he2 j y hy))) rfl <| ?_
          refine v0 (S0.assign rfl) rfl <| vE <| WP.seq <| WP.region <| v0 (S0.move rfl) rfl <| ?_  -- op t70 := call F116{(*strings.Builder).WriteString}(t8, t69)
          refine vcd (S1.callF rfl (bWrite_spec (n := l.length) (s := [47]) (by omega) (by omega)) (take1 at0 (take1 at0 take0))) rfl ?_
          rw [wr_bys, h47, show l.length + 1 = (l ++ [47]).length by simp]
          have hl2 : (bys (l ++ [47]) ++ sp.drop 1).length = cs.length := by
            rw [← hlen]; simp only [List.length_append, bys_len, List.length_drop, List.length_cons, List.length_nil]
            rw [List.length_append, bys_len] at hlen; omega
          refine vE <| WP.region <| v0 (S0.move rfl) rfl <| ?_  -- op t72 := call F116{(*strings.Builder).WriteString}(t8, t71)
          refine vcd (S1.callF rfl (bWrite_spec (n := (l ++ [47]).length) (s := y) (by simp; omega) (by rw [hl2]; simp; omega)) (take1 at0 (take1 at0 take0))) rfl ?_
          rw [wr_bys, ← List.length_append, ← hus]
          have hl3 : (bys (unl (A.take (j + 1 + 1))) ++ (sp.drop 1).drop y.length).length = cs.length := by
            rw [hus]
            rw [List.length_append, bys_len] at hl2 hlen
            simp only [List.length_append, bys_len, List.length_drop, List.length_cons, List.length_nil] at hl2 ⊢
            omega
          refine vE <| WP.region <| v0 (S0.ari rfl rfl rfl (wrap_i64 (by omega))) rfl <| v0 (S0.move rfl) rfl <| vE <| ?_  -- roundend
          exact ⟨(j + 1, (sp.drop 1).drop y.length), (by first | exact ⟨hlt, hl3⟩ | (dsimp only; exact ⟨hlt, hl3⟩)), (show A'.length - (j + 1) < A'.length - j by omega), ⟨⟨rfl, rfl, rfl, rfl, rfl, trivial⟩, rfl, rfl⟩, ⟨_, (take1 at0 (take1 at0 (take1 at0 take0)))⟩⟩
        · skip
          have ej : j = A'.length := by omega
          subst ej
          rw [show A.take (A'.length + 1) = A by rw [← hAl, List.take_length]] at hlen ⊢
          have hn0 : unl A ≠ [] := by
            intro e
            rw [e] at hul
            simp only [List.length_nil] at hul
            omega
          refine WP.exit <| WP.seq <| WP.region <| ?_  -- op t74 := call F117{(*strings.Builder).String}(t8)
          refine vcd (S1.callF rfl (bString_spec hn0 hlen (by omega)) (take1 at0 (take1 at0 take0))) rfl ?_
          refine v0 (S0.assign rfl) rfl <| vE <| WP.ret <| ?_  -- ret
          refine r1 rfl rfl ⟨?_, rfl⟩
          rfl
end Go.Proofs.YtipljeomgdomnaaGreatDoor
/- CloneS -/
namespace Go.Proofs.YtipljeomgdomnaaGreatDoor
open Go

theorem strs_all (sp : List Value) (R : List Str) : ((strs R ++ sp).drop 0).take (R.length * 1) = strs R ∧ 0 + R.length * 1 ≤ (strs R ++ sp).length := by
  have : (strs R).length = R.length := by simp [strs]
  refine ⟨by rw [List.drop_zero, Nat.mul_one, ← this, List.take_left], by rw [List.length_append]; omega⟩
theorem clone_spec {v : Value} {l : List Str} {row : List Blk} (hs : IsSl 9 1 v (strs l) row) (hl : l.length ≤ 1000000) : FN Tryz.prog 50 [v] [row] (fun u h => ∃ row2, IsSl 9 1 u (strs l) row2 ∧ h = [row2, row]) := by
  obtain ⟨a, cap, rfl, hcap, hrow⟩ := hs.strsE
  rcases hrow with ⟨rfl, rfl, rfl, rfl⟩ | ⟨b, sp, rfl, rfl, hsp⟩
  · refine FN.intro 8 [(0, .slice none ([] : List Str).length 0)] Tryz.func50 rfl (enters Tryz.func50 (by kernel_rfl) rfl) Tryz.ntmps50 rfl rfl ?_
    refine WP.perm (h' := [[], []]) (k := []) (by simp) ?_
    refine WP.seq <| WP.region <| v0 (S0.assign rfl) rfl <| vE <| WP.seq <| WP.seq <| WP.region <| v0 (S0.move rfl) rfl <| v0 (S0.nilSl rfl rfl rfl) rfl <| vE <| ?_  -- cond
    refine WP.condTh rfl (rfl) ?_
    refine WP.seq <| WP.region <| v0 (S0.assign rfl) rfl <| vE <| WP.ret <| ?_  -- ret
    refine r1 rfl rfl ?_
    exact ⟨[], IsSl.nil, rfl⟩
  · refine FN.intro 8 [(0, .slice (some ⟨b, 0, none⟩) l.length cap)] Tryz.func50 rfl (enters Tryz.func50 (by kernel_rfl) rfl) Tryz.ntmps50 rfl rfl ?_
    refine WP.seq <| WP.region <| v0 (S0.assign rfl) rfl <| vE <| WP.seq <| WP.seq <| WP.region <| v0 (S0.move rfl) rfl <| v0 (S0.nilSl rfl rfl rfl) rfl <| vE <| ?_  -- cond
    refine WP.condFh rfl (rfl) ?_
    refine WP.skip <| WP.seq <| WP.region <| vnv (S1.buildSlice rfl (qs := []) rfl rfl) rfl fun b5 => v0 (S0.move rfl) rfl <| ?_  -- op t7 := append(t5, t6) :[23, 23]
    refine ve (S1.appendRd rfl (IsSl.row (n := 0) (c := 0) (l := []) (sp := []) rfl rfl (Nat.le_refl _)) rfl hs.rdS (fun q hq => List.mem_flatten.2 ⟨_, by simp, hq⟩) at0 rfl (by simp; omega)) rfl ?_
    rintro v2 _ ⟨row2, hsl2, rfl⟩
    rw [List.nil_append] at hsl2
    refine v0 (S0.assign rfl) rfl <| vE <| WP.ret <| ?_  -- ret
    refine r1 rfl rfl ?_
    exact ⟨row2, hsl2, rfl⟩
theorem idx_spec {v : Value} {l : List Str} {row : List Blk} {x : Str} (hr : RdS v l row) (hl : l.length ≤ 1000000) : FN Tryz.prog 80 [v, sv x] [row] (is (.int .i64 (idxP (fun y => decide (x = y)) l)) [row]) := by
  obtain ⟨a, cap, rfl, hcap, hr⟩ := hr
  refine FN.intro 19 [(0, .slice a l.length cap), (1, sv x)] Tryz.func80 rfl (enters Tryz.func80 (by kernel_rfl) rfl) Tryz.ntmps80 rfl rfl ?_
  refine WP.seq <| WP.region <| v0 (S0.assign rfl) rfl <| vE <| WP.seq <| WP.seq <| WP.region <| v0 (S0.move rfl) rfl <| v0 (S0.lenSl rfl) rfl <| v0 (S0.move rfl) rfl <| vE <| WP.block <| ?_  -- Code.loop
  refine WP.loop (fun i : Nat => i ≤ l.length ∧ ∀ j y, j < i → l[j]? = some y → decide (x = y) = false) (fun i : Nat => [(0, .slice a l.length cap), (1, sv x), (7, .int .i64 (l.length : Int)), (8, .int .i64 (i : Int))]) (fun i : Nat => [row]) (fun i : Nat => l.length - i) (0) (⟨by omega, fun j y hj => by omega⟩) ⟨rfl, rfl, rfl, rfl, trivial⟩ ⟨_, (take1 at0 take0)⟩ (fun i hinv => ?_) 
  obtain ⟨hi, hno⟩ := hinv
  refine WP.seq <| WP.region <| v0 (S0.cmp rfl rfl rfl) rfl <| vE <| WP.seq <| ?_  -- cond
  first | refine WP.condP rfl (fun h1 => ?_) (fun h1 => ?_) | refine WP.condN rfl (fun h1 => ?_) (fun h1 => ?_) | refine WP.cond rfl (fun h1 => ?_) (fun h1 => ?_)
  · skip
    have hlt : i < l.length := by omega
    rcases hr with e | ⟨b1, o1, L1, U1, fz1, rfl, hm1, he1⟩
    · rw [e] at hlt; simp at hlt
    have : HasC row b1 (.cells ⟨L1⟩ U1 fz1) := ⟨hm1⟩
    have hy : l[i]? = some l[i] := by simp [hlt]
    generalize l[i] = y at hy
    have hye := he1 i y hy
    skip
    refine WP.skip <| WP.seq <| WP.block <| WP.seq <| WP.region <| v0 (S0.move rfl) rfl <| v0 (S0.assign rfl) rfl <| vE <| WP.seq <| WP.region <| v0 (S0.move rfl) rfl <| v0 (S0.move rfl) rfl <| v0 (S0.move rfl) rfl <| ?_  -- op t14 := indexAddr 23 t12 t13
    refine v0 (S0.indexO1 rfl rfl hlt) rfl <| ?_
    refine v0 (S0.load rfl (rdS_get hye)) rfl <| ?_
    refine v0 (S0.cmpS rfl rfl rfl) rfl <| vE <| ?_  -- cond
    first | refine WP.condP rfl (fun h2 => ?_) (fun h2 => ?_) | refine WP.condN rfl (fun h2 => ?_) (fun h2 => ?_) | refine WP.cond rfl (fun h2 => ?_) (fun h2 => ?_)
    · skip
      refine WP.seq <| WP.region <| v0 (S0.move rfl) rfl <| v0 (S0.assign rfl) rfl <| vE <| WP.ret <| ?_  -- ret
      refine r1 rfl rfl ⟨?_, rfl⟩
      rw [idxP_at hno hy (by simp [h2])]
    · skip
      refine WP.skip <| WP.region <| v0 (S0.ari rfl rfl rfl (wrap_i64 (by omega))) rfl <| v0 (S0.move rfl) rfl <| vE <| ?_  -- roundend
      exact ⟨i + 1, (by first | exact ⟨hlt, below_at (p := fun _ y => decide (x = y) = false) hno hy (by simp [h2])⟩ | (dsimp only; exact ⟨hlt, below_at (p := fun _ y => decide (x = y) = false) hno hy (by simp [h2])⟩)), (by omega), ⟨⟨rfl, rfl, rfl, rfl, trivial⟩, rfl, rfl⟩, ⟨_, (take1 at0 take0)⟩⟩
  · skip
    refine WP.exit <| WP.seq <| WP.region <| v0 (S0.assign rfl) rfl <| vE <| WP.ret <| ?_  -- ret
    refine r1 rfl rfl ⟨?_, rfl⟩
    rw [idxP_none fun j y hj => hno j y (by omega)]
theorem any_eq_mem (x : Str) (l : List Str) : (l.any fun y => decide (x = y)) = decide (x ∈ l) := by
  rw [Bool.eq_iff_iff]; simp
theorem contains_spec {v : Value} {l : List Str} {row : List Blk} {x : Str} (hr : RdS v l row) (hl : l.length ≤ 1000000) : FN Tryz.prog 52 [v, sv x] [row] (is (.bool (decide (x ∈ l))) [row]) := by
  refine FN.intro 9 [(0, v), (1, sv x)] Tryz.func52 rfl (enters Tryz.func52 (by kernel_rfl) rfl) Tryz.ntmps52 rfl rfl ?_
  refine WP.seq <| WP.region <| v0 (S0.assign rfl) rfl <| vE <| WP.seq <| WP.region <| v0 (S0.move rfl) rfl <| v0 (S0.move rfl) rfl <| ?_  -- op t7 := call F80{slices.Index[[]string,string]}(t5, t6)
  refine vcd (S1.callF rfl (idx_spec hr hl) (take1 at0 take0)) rfl ?_
  refine v0 (S0.cmp rfl rfl rfl) rfl <| v0 (S0.assign rfl) rfl <| vE <| WP.ret <| ?_  -- ret
  refine r1 rfl rfl ⟨?_, rfl⟩
  rw [idxP_any, any_eq_mem]
end Go.Proofs.YtipljeomgdomnaaGreatDoor
/- T9 -/
/-
  The paths of a node's children, one child behind the other.
-/
namespace Go.Proofs.YtipljeomgdomnaaGreatDoor
open Go

/-- the paths through one child -/
def kidP (so : AL → Bool) (K : HF) (z : Str × Value × Nat) : List (List Str) := match K.get z.1 with
  | some u => (u.paths so).map (z.1 :: ·)
  | none => []
theorem kidP_all (so : AL → Bool) : ∀ (K : HF), (K.ml.map (·.1)).Nodup → K.ml.flatMap (kidP so K) = K.paths so
  | .nil, _ => rfl
  | .cons k bn t r, h => by
    simp only [HF.ml, List.map_cons, List.nodup_cons] at h
    have ih := kidP_all so r h.2
    simp only [HF.ml, List.flatMap_cons, HF.paths]
    congr 1
    · simp [kidP, HF.get]
    · rw [← ih]
      have : ∀ (l : ML Str), (∀ z ∈ l, z.1 ≠ k) → l.flatMap (kidP so (.cons k bn t r)) = l.flatMap (kidP so r) := by
        intro l hl
        induction l with
        | nil => rfl
        | cons z l ih =>
          have hz := hl z (by simp)
          simp only [List.flatMap_cons]
          rw [ih fun y hy => hl y (by simp [hy])]
          congr 1
          simp [kidP, HF.get, hz]
      exact this _ fun z hz e => h.1 (List.mem_map.2 ⟨z, hz, e⟩)
theorem HF.get_paths (so : AL → Bool) : ∀ {K : HF} {k : Str} {u : HT}, K.get k = some u → ∀ p ∈ u.paths so, (k :: p) ∈ K.paths so
  | .nil, _, _, h => by cases h
  | .cons a bn t r, k, u, h => by
    simp only [HF.get] at h
    intro p hp
    simp only [HF.paths, List.mem_append, List.mem_map]
    split at h
    · rename_i e; cases h; exact .inl ⟨p, hp, by rw [e]⟩
    · exact .inr (HF.get_paths so h p hp)
theorem HF.get_len (so : AL → Bool) : ∀ {K : HF} {k : Str} {u : HT}, K.get k = some u → (u.paths so).length ≤ (K.paths so).length
  | .nil, _, _, h => by cases h
  | .cons a bn t r, k, u, h => by
    simp only [HF.get] at h
    simp only [HF.paths, List.length_append, List.length_map]
    split at h
    · cases h; omega
    · have := HF.get_len so h; omega
/-- one more of a list's entries -/
theorem rest_next {α : Type} {L xs rest : List α} {y : α} (hp : (xs ++ rest).Perm L) (hy : y ∈ L) (hn : y ∉ xs) : ∃ rest', ((xs ++ [y]) ++ rest').Perm L ∧ rest.Perm (y :: rest') := by
  have hm : y ∈ rest := by
    rcases List.mem_append.1 (hp.mem_iff.2 hy) with h | h
    · exact absurd h hn
    · exact h
  obtain ⟨s, t, rfl⟩ := List.append_of_mem hm
  refine ⟨s ++ t, ?_, List.perm_middle⟩
  refine List.Perm.trans ?_ hp
  rw [List.append_assoc]
  refine List.Perm.append_left _ ?_
  simpa using (List.perm_middle (a := y) (l₁ := s) (l₂ := t)).symm
end Go.Proofs.YtipljeomgdomnaaGreatDoor
/- W5 -/
namespace Go.Proofs.YtipljeomgdomnaaGreatDoor
open Go

/-- a text at the end -/
theorem clone_any {v : Value} {l : List Str} {row : List Blk} (hs : RdS v l row) (hl : l.length ≤ 1000000) : FN Tryz.prog 50 [v] [row] (fun u h => ∃ row2, IsSl 9 1 u (strs l) row2 ∧ h = [row2, row]) := by
  obtain ⟨a, cap, rfl, hcap, hr⟩ := hs
  refine FN.intro 8 [(0, .slice a l.length cap)] Tryz.func50 rfl (enters Tryz.func50 (by kernel_rfl) rfl) Tryz.ntmps50 rfl rfl ?_
  skip
  cases a with
  | none =>
    have hl0 : l = [] := hr.elim id fun ⟨b, o, L, U, fz, e, _⟩ => by cases e
    subst hl0
    skip
    refine WP.perm (h' := [[], row]) (k := []) (by simp) ?_
    refine WP.seq <| WP.region <| v0 (S0.assign rfl) rfl <| vE <| WP.seq <| WP.seq <| WP.region <| v0 (S0.move rfl) rfl <| v0 (S0.nilSl rfl rfl rfl) rfl <| vE <| ?_  -- cond
    refine WP.condTh rfl (rfl) ?_
    refine WP.seq <| WP.region <| v0 (S0.assign rfl) rfl <| vE <| WP.ret <| ?_  -- ret
    refine r1 rfl rfl ?_
    exact ⟨[], IsSl.nil, rfl⟩
  | some a =>
    skip
    refine WP.seq <| WP.region <| v0 (S0.assign rfl) rfl <| vE <| WP.seq <| WP.seq <| WP.region <| v0 (S0.move rfl) rfl <| v0 (S0.nilSl rfl rfl rfl) rfl <| vE <| ?_  -- cond
    refine WP.condFh rfl (rfl) ?_
    refine WP.skip <| WP.seq <| WP.region <| vnv (S1.buildSlice rfl (qs := []) rfl rfl) rfl fun b5 => v0 (S0.move rfl) rfl <| ?_  -- op t7 := append(t5, t6) :[23, 23]
    refine ve (S1.appendRd (R := l) rfl (IsSl.row (n := 0) (c := 0) (l := []) (sp := []) rfl rfl (Nat.le_refl _)) rfl ⟨some a, cap, rfl, hcap, hr⟩ (fun q hq => List.mem_flatten.2 ⟨_, by simp, hq⟩) at0 rfl (by simp; omega)) rfl ?_
    rintro v2 _ ⟨row2, hsl2, rfl⟩
    rw [List.nil_append] at hsl2
    refine v0 (S0.assign rfl) rfl <| vE <| WP.ret <| ?_  -- ret
    refine r1 rfl rfl ?_
    exact ⟨row2, hsl2, rfl⟩
/-- what a closure says of a node's entries -/
def SoOK (g : Nat) (caps : List Value) (so : AL → Bool) (ct cso : List Blk) : Prop := ∀ (ma : Nat) (A : AL) (ca : Nat), HasC ct ma (mapO (Value.int .i64) (aml A) ca) → FN Tryz.prog g (.map (some ma) :: caps) [ct, cso] (is (.bool (so A)) [ct, cso])
def ListOK (t : HT) : Prop := t.wf → ∀ {g : Nat} {caps : List Value} {so : AL → Bool} {ahead l : List Str} {av ov : Value} {row ct ac cso : List Blk} {ob : Nat}, (∀ z ∈ t.blks 101, z ∈ ct) → SoOK g caps so ct cso →
    RdS av ahead ac → IsSl 9 1 ov (strs l) row → ahead.length + t.dep ≤ 1000 → l.length + (t.paths so).length ≤ 1000000 → (∀ p ∈ t.paths so, ∀ x ∈ ahead ++ p, x.length ≤ 100000) →
    FN Tryz.prog 84 [t.ptr, av, .func (.func g) ⟨[]⟩ ⟨caps⟩, .pointer (some ⟨ob, 0, none⟩)] [[(ob, cel [ov] 23)], row, ct, ac, cso]
      (fun u h => ∃ (ps : List (List Str)) (ov' : Value) (row' : List Blk), ps.Perm (t.paths so) ∧ IsSl 9 1 ov' (strs (l ++ ps.map fun p => unl (ahead ++ p))) row' ∧ u = .tuple #[] ∧ h = [[(ob, cel [ov'] 23)], row', ct, ac, cso])
theorem list_spec (t : HT) : ListOK t := by
  induction t using HT.rec (motive_2 := Kids ListOK) with
  | nil => exact Kids.nil
  | cons k bn t r ih1 ih2 => exact Kids.cons ih1 ih2
  | nd b mk ma ck ca A K ih =>
    intro hw g caps so ahead l av ov row ct ac cso ob hct hso hra hsl hdep hcnt htx
    simp only [HT.wf] at hw
    obtain ⟨hwk, hwa, hpos, hwK⟩ := hw
    obtain ⟨i1, i2, i3, hKb⟩ := HT.node_mem hct
    simp only [HT.dep] at hdep
    simp only [HT.paths, List.length_append, List.mem_append] at hcnt htx
    have hal : ahead.length ≤ 1000 := by omega
    show FN _ _ [.pointer (some ⟨b, 0, none⟩), _, _, _] _ _
    refine FN.intro 44 [(0, .pointer (some ⟨b, 0, none⟩)), (1, av), (2, .func (.func g) ⟨[]⟩ ⟨caps⟩), (3, .pointer (some ⟨ob, 0, none⟩))] Tryz.func84 rfl (enters Tryz.func84 (by kernel_rfl) rfl) Tryz.ntmps84 rfl rfl ?_
    refine WP.seq <| ?_  -- cut
    refine WP.cutT (fun s : Value × List Blk => IsSl 9 1 s.1 (strs (l ++ (if so A = true then [unl ahead] else []))) s.2) (fun s : Value × List Blk => [(0, .pointer (some ⟨b, 0, none⟩)), (1, av), (2, .func (.func g) ⟨[]⟩ ⟨caps⟩), (3, .pointer (some ⟨ob, 0, none⟩))]) (fun s : Value × List Blk => [[(ob, cel [s.1] 23)], s.2, ct, ac, cso]) ?_ (fun s hinv => ?_)
    · refine WP.seq <| WP.region <| v0 (S0.move rfl) rfl <| v0 (S0.move rfl) rfl <| v0 (S0.nilCheck rfl) rfl <| v0 (S0.fieldAddr rfl) rfl <| v0 (S0.load rfl rfl) rfl <| ?_  -- op t15 := call t10(t14)
      refine vcd (S1.callC rfl rfl rfl (hso ma A ca i3) (take1 (atS (atS at0)) (take1 (atS (atS (atS at0))) take0))) rfl ?_
      refine vE <| ?_  -- cond
      first | refine WP.condP rfl (fun h1 => ?_) (fun h1 => ?_) | refine WP.condN rfl (fun h1 => ?_) (fun h1 => ?_) | refine WP.cond rfl (fun h1 => ?_) (fun h1 => ?_)
      · skip
        have hx : ∀ x ∈ ahead, x.length ≤ 100000 := fun x hx => htx [] (.inl (by simp [h1])) x (by simp [hx])
        simp only [h1, if_true, List.length_singleton] at hcnt ⊢
        skip
        refine WP.drawP [(0, none), (1, none), (2, none), (3, none), (4, none), (5, none), (6, none), (7, none), (8, none), (9, none)] mixed (by kernel_rfl) (by kernel_rfl) (by kernel_rfl) (take1 (atS (atS at0)) take0) <| w0 rfl rfl rfl (S0.move rfl) rfl <| w0 rfl rfl rfl (S0.move rfl) rfl <| w0 rfl rfl rfl (S0.nilCheck rfl) rfl <| w0 rfl rfl rfl (S0.load rfl rfl) rfl <| w0 rfl rfl rfl (S0.move rfl) rfl <| ?_  -- op t21 := call F99{strings.Join}(t20, Value.string {'data': [47]})
        refine wcd rfl rfl rfl rfl (S1.callF rfl (join_spec0 hra hal hx) (take1 (atS (atS (atS at0))) take0)) rfl ?_
        refine wnv rfl rfl rfl rfl (S1.buildSlice rfl (qs := [(0, _)]) rfl rfl) rfl fun b22 => ?_  -- op t23 := append(t19, t22) :[23, 23]
        refine we rfl rfl rfl rfl (S1.appendL rfl hsl rfl rfl (atS (atS (atS (atS at0)))) rfl rfl (by rw [strs_len]; simp; omega)) rfl ?_
        rintro v2 _ ⟨row2, hsl2, rfl⟩
        refine w0 rfl rfl rfl (S0.nilCheck rfl) rfl <| ?_  -- limit
        refine wlast rfl (by kernel_rfl) rfl rfl (S1.store rfl rfl hsl2.cv) ?_
        -- (nothing to walk: cutend)
        exact ⟨(v2, row2), (by first | exact (by simpa [strs] using hsl2) | (dsimp only; exact (by simpa [strs] using hsl2))), ⟨⟨rfl, rfl, rfl, rfl, trivial⟩, rfl, rfl⟩, ⟨_, (take1 at0 (take1 at0 (take1 (atS (atS at0)) (take1 (atS at0) (take1 (atS at0) take0)))))⟩⟩
      · skip
        have h1 : so A = false := by simpa using h1
        simp only [h1, Bool.false_eq_true, if_false, List.append_nil]
        refine WP.skip <| ?_  -- cutend
        exact ⟨(ov, row), (by first | exact hsl | (dsimp only; exact hsl)), ⟨⟨rfl, rfl, rfl, rfl, trivial⟩, rfl, rfl⟩, ⟨_, (take1 (atS (atS at0)) (take1 (atS (atS at0)) (take1 at0 (take1 (atS at0) (take1 at0 take0)))))⟩⟩
    · skip
      obtain ⟨ov1, row1⟩ := s
      generalize hl1 : l ++ (if so A = true then [unl ahead] else []) = l1 at hinv
      dsimp only at hinv ⊢
      have hl1len : l1.length + (K.paths so).length ≤ 1000000 := by
        rw [← hl1, List.length_append]
        split at hcnt <;> rename_i h1 <;> simp [h1] at hcnt ⊢ <;> omega
      have hall := kidP_all so K hwk.keys
      refine WP.seq <| WP.region <| v0 (S0.move rfl) rfl <| v0 (S0.nilCheck rfl) rfl <| v0 (S0.fieldAddr rfl) rfl <| v0 (S0.load rfl rfl) rfl <| ?_  -- op t29 := range 99 t28
      refine vn (S1.range rfl) rfl fun b29 => ?_
      refine vE <| WP.block <| ?_  -- Code.loop
      refine WP.loop (fun s : ML Str × List (List Str) × Value × List Blk => s.1.Nodup ∧ (∀ z ∈ s.1, z ∈ K.ml) ∧ s.2.1.Perm (s.1.flatMap (kidP so K)) ∧ (∃ rest, (s.1 ++ rest).Perm K.ml) ∧ IsSl 9 1 s.2.2.1 (strs (l1 ++ s.2.1.map fun p => unl (ahead ++ p))) s.2.2.2) (fun s : ML Str × List (List Str) × Value × List Blk => [(0, .pointer (some ⟨b, 0, none⟩)), (1, av), (2, .func (.func g) ⟨[]⟩ ⟨caps⟩), (3, .pointer (some ⟨ob, 0, none⟩)), (29, .pointer (some ⟨b29, 0, none⟩))]) (fun s : ML Str × List (List Str) × Value × List Blk => [[(b29, .mapIter (some mk) ck ⟨s.1.map (·.2.2)⟩ ck)], [(ob, cel [s.2.2.1] 23)], s.2.2.2, ct, ac, cso]) (fun s : ML Str × List (List Str) × Value × List Blk => K.ml.length - s.1.length) (([], [], ov1, row1)) (⟨by simp, by simp, by simp, ⟨K.ml, by simp⟩, by simpa using hinv⟩) ⟨rfl, rfl, rfl, rfl, rfl, trivial⟩ ⟨_, (take1 at0 (take1 at0 (take1 at0 (take1 at0 (take1 at0 (take1 at0 take0))))))⟩ (fun s hinv => ?_) 
      obtain ⟨xs, ps, ov2, row2⟩ := s
      obtain ⟨h1, h2, h3, ⟨rest, h4⟩, h5⟩ := hinv
      dsimp only at h1 h2 h3 h4 h5 ⊢
      refine WP.seq <| WP.region <| ?_  -- op t30 := next t29 false
      refine ve (S1.next hwk rfl) rfl ?_
      rintro _ _ (⟨rfl, rfl, hdone⟩ | ⟨y, hy, hyn, rfl, rfl⟩)
      skip
      · skip
        refine v0 (S0.extract rfl rfl) rfl <| vE <| WP.seq <| ?_  -- cond
        refine WP.condFh rfl (rfl) ?_
        refine WP.exit <| ?_  -- fnend
        have hp := perm_of_all hwk h1 h2 hdone
        refine Leaves.drop (take1 (atS at0) (take1 (atS at0) (take1 (atS at0) (take1 (atS at0) (take1 (atS at0) take0))))) ?_
        refine r0 rfl ?_
        refine ⟨(if so A = true then [[]] else []) ++ ps, ov2, row2, ?_, ?_, rfl, rfl⟩
        · simp only [HT.paths]
          refine List.Perm.append_left _ (h3.trans ?_)
          rw [← hall]
          exact hp.flatMap_right _
        · rw [← hl1] at h5
          by_cases hs : so A = true
          · simpa [hs] using h5
          · simpa [hs] using h5
      · skip
        obtain ⟨u, hu, hup⟩ := HF.ml_get hwk hy
        have hyx : y ∉ xs := fun hm => hyn (List.mem_map.2 ⟨y, hm, rfl⟩)
        obtain ⟨rest', hr1, hr2⟩ := rest_next h4 hy hyx
        have hnd : (xs ++ [y]).Nodup := List.nodup_append.2 ⟨h1, by simp, fun a ha b hb e => by simp at hb; subst hb; subst e; exact hyx ha⟩
        have hsb : ∀ x ∈ xs ++ [y], x ∈ K.ml := fun x hx => (List.mem_append.1 hx).elim (h2 x) fun h => by simp at h; subst h; exact hy
        have hle : (xs ++ [y]).length ≤ K.ml.length := hnd.length_le_of_subset hsb
        have hd := HF.dep_get hu
        have hkp : kidP so K y = (u.paths so).map (y.1 :: ·) := by simp [kidP, hu]
        have hlen : ps.length + (u.paths so).length ≤ (K.paths so).length := by
          have e1 := (hr1.flatMap_right (kidP so K)).length_eq
          rw [hall, List.flatMap_append, List.flatMap_append, List.length_append, List.length_append, ← h3.length_eq] at e1
          simp only [List.flatMap_cons, List.flatMap_nil, List.append_nil, hkp, List.length_map] at e1
          omega
        refine v0 (S0.extract rfl rfl) rfl <| vE <| WP.seq <| ?_  -- cond
        refine WP.condTh rfl (rfl) ?_
        refine WP.skip <| WP.block <| WP.seq <| WP.region <| ?_  -- op t32 := entry t29
        refine v0 (S0.entry (ek := sv) (m := mk) (pre := xs.map (fun x : Str × Value × Nat => x.2.2)) hwk hy rfl) rfl <| ?_
        rw [hup]
        refine v0 (S0.extract rfl rfl) rfl <| v0 (S0.extract rfl rfl) rfl <| v0 (S0.assign rfl) rfl <| v0 (S0.assign rfl) rfl <| vE <| WP.region <| v0 (S0.move rfl) rfl <| v0 (S0.move rfl) rfl <| ?_  -- op t37 := call F50{slices.Clone[[]string,string]}(t36)
        refine vc (S1.callF rfl (clone_any hra (by omega)) (take1 (atS (atS (atS (atS at0)))) take0)) rfl ?_
        rintro av2 _ ⟨row3, hs3, rfl⟩
        refine app ?_
        refine v0 (S0.move rfl) rfl <| vnv (S1.buildSlice rfl (qs := [(0, _)]) rfl rfl) rfl fun b39 => ?_  -- op t40 := append(t37, t39) :[23, 23]
        refine ve (S1.appendL rfl hs3 rfl rfl (atS at0) rfl rfl (by rw [strs_len]; simp; omega)) rfl ?_
        rintro v4 _ ⟨row4, hs4, rfl⟩
        have hs4 : IsSl 9 1 v4 (strs (ahead ++ [y.1])) row4 := by simpa [strs] using hs4
        refine v0 (S0.move rfl) rfl <| v0 (S0.move rfl) rfl <| ?_  -- op t43 := call F84{rivulet/trie.list}(t35, t40, t41, t42)
        refine vc (S1.callF rfl (ih y.1 u hu (HF.get_wf hu hwK) (fun z hz => hKb z (HF.get_mem _ hu z hz)) hso hs4.rdS h5 (by simp; omega) (by simp; omega) (fun p hp x hx => htx (y.1 :: p) (.inr (HF.get_paths so hu p hp)) x (by simpa using hx))) (take1 (atS (atS (atS (atS at0)))) (take1 (atS (atS (atS (atS at0)))) (take1 (atS (atS (atS (atS at0)))) (take1 at0 (take1 (atS (atS (atS at0))) take0)))))) rfl ?_
        rintro _ _ ⟨ps2, ov3, row5, hp2, hs5, rfl, rfl⟩
        refine app ?_
        refine vE <| ?_  -- roundend
        have hps : (ps ++ ps2.map (y.1 :: ·)).Perm ((xs ++ [y]).flatMap (kidP so K)) := by
          rw [List.flatMap_append]
          refine h3.append ?_
          simp only [List.flatMap_cons, List.flatMap_nil, List.append_nil, hkp]
          exact hp2.map _
        have hs6 : IsSl 9 1 ov3 (strs (l1 ++ (ps ++ ps2.map (y.1 :: ·)).map fun p => unl (ahead ++ p))) row5 := by
          have e : (fun p => unl (ahead ++ p)) ∘ (fun x => y.1 :: x) = fun p => unl (ahead ++ [y.1] ++ p) := by funext p; simp
          rw [List.map_append, List.map_map, e, ← List.append_assoc]
          exact hs5
        exact ⟨(xs ++ [y], ps ++ ps2.map (y.1 :: ·), ov3, row5), (by first | exact ⟨hnd, hsb, hps, ⟨rest', hr1⟩, hs6⟩ | (dsimp only; exact ⟨hnd, hsb, hps, ⟨rest', hr1⟩, hs6⟩)), (by simp at hle ⊢; omega), ⟨⟨rfl, rfl, rfl, rfl, rfl, trivial⟩, rfl, rfl⟩, ⟨[row4, [(b39, cel [Value.string ⟨⟨y.1⟩⟩] 9)]], (pm fun a_ => by (try simp only [List.flatten_append, List.flatten_cons, List.flatten_nil, List.append_nil, List.cons_append, List.nil_append, List.append_assoc, nOf_app, nOf_cons, nOf_nil, Nat.add_zero, Nat.zero_add, List.map_append, List.map_cons, List.map_nil, cel, sv]); omega)⟩⟩
end Go.Proofs.YtipljeomgdomnaaGreatDoor
/- SortF -/
namespace Go.Proofs.YtipljeomgdomnaaGreatDoor
open Go

/-- a function that touches no block: what it leaves is the world itself, with blocks behind it -/
theorem FN.lays {P : Program} {g : Nat} {args : List Value} {v : Value} (H : FN P g args [] (is v [])) (W : World) : Calls P g ⟨args⟩ W fun e w' => e = .returned v ∧ ∃ q os', w' = Sort.grow (W.drewN q) os' := by
  have st : Sat W (([] : Hp).flatten ++ whole W) W := by simpa using Sat.whole W
  refine (H.run W (whole W) W st).mono ?_
  rintro e w' ⟨v', h', rfl, ⟨rfl, rfl⟩, st⟩
  refine ⟨rfl, w'.drawn - W.drawn, w'.heap.extract W.heap.size w'.heap.size, ?_⟩
  have hh : w'.heap = W.heap ++ w'.heap.extract W.heap.size w'.heap.size := by
    apply Array.ext
    · have := st.size; simp; omega
    · intro i h1 h2
      by_cases hi : i < W.heap.size
      · rw [Array.getElem_append_left hi]
        have := st.cell (i, W.heap[i]) (by simp; exact whole_mem.2 (by simp [hi]))
        exact (Array.getElem?_eq_some_iff.1 this).2
      · rw [Array.getElem_append_right (by omega), Array.getElem_extract]
        congr 1; omega
  have hd := st.drawn
  have e1 := st.tape
  have e2 := st.os
  have e3 := st.out
  cases w'
  cases W
  simp only at *
  subst e1 e2 e3
  simp only [Sort.grow, World.drewN, World.mk.injEq, and_true, true_and]
  exact ⟨hh, by omega⟩

theorem putCells_enc {α : Type} [Inhabited α] (enc : α → Value) (ys : List α) (cs sp : List Value) (h : ys.length = cs.length) : (Sort.putCells enc 0 ys.toArray ⟨cs ++ sp⟩) = ⟨ys.map enc ++ sp⟩ := by
  apply Array.ext
  · simp [Sort.putCells, h]
  · intro i h1 h2
    simp only [Sort.putCells, Array.getElem_mapIdx]
    simp only [Nat.zero_le, true_and, Nat.zero_add, List.size_toArray, Nat.sub_zero]
    by_cases hi : i < ys.length
    · rw [if_pos hi]
      simp [List.getElem_append_left, hi]
    · rw [if_neg hi]
      simp only [List.getElem_toArray]
      rw [List.getElem_append_right (by omega), List.getElem_append_right (by simp; omega)]
      simp [h]
/-- a row laid anew, in place -/
theorem Sat.putRow {α : Type} [Inhabited α] {enc : α → Value} {E w : World} {b : Nat} {U : TypeId} {cs sp : List Value} {hr : Hp} {R : List Blk} (st : Sat E (([(b, .cells ⟨cs ++ sp⟩ U (0, 0))] :: hr : Hp).flatten ++ R) w) (n : Nat) (ys : List α) (h : ys.length = cs.length) :
    Sat E (([(b, .cells ⟨ys.map enc ++ sp⟩ U (0, 0))] :: hr : Hp).flatten ++ R) (Sort.putRow enc (Sort.ahead w n) b 0 ys.toArray) := by
  have hb : w.heap[b]? = some (.cells ⟨cs ++ sp⟩ U (0, 0)) := st.cell (b, _) (by simp)
  have st1 := st.drawn' n
  have e : Sort.putRow enc (Sort.ahead w n) b 0 ys.toArray = { (Sort.ahead w n) with heap := (Sort.ahead w n).heap.setIfInBounds b (.cells ⟨ys.map enc ++ sp⟩ U (0, 0)) } := by
    obtain ⟨hlt, hg⟩ := Array.getElem?_eq_some_iff.1 hb
    unfold Sort.putRow Sort.mapBlock
    have h2 : (Sort.ahead w n).heap = w.heap := rfl
    congr 1
    rw [h2]
    apply Array.ext
    · simp
    · intro j h1 h2
      rw [Array.getElem_modify, Array.getElem_setIfInBounds (by simpa using h2)]
      split
      · rename_i e
        subst e
        rw [hg]
        simp only [Sort.onCells]
        rw [putCells_enc enc ys cs sp h]
      · rfl
  rw [e]
  exact Sat.upd (h := [(b, .cells ⟨cs ++ sp⟩ U (0, 0))] :: hr) (b := b) (o := .cells ⟨cs ++ sp⟩ U (0, 0)) st1
theorem holds_row {α : Type} [Inhabited α] {enc : α → Value} {w : World} {b : Nat} {U : TypeId} {sp : List Value} {ys : List α} (hb : w.heap[b]? = some (.cells ⟨ys.map enc ++ sp⟩ U (0, 0))) : Sort.Holds enc w b 0 ys.toArray := by
  intro j hj
  have hj' : j < ys.length := by simpa using hj
  constructor
  · simp only [Nat.zero_add]
    refine cell_of hb ?_
    rw [List.getElem?_append_left (by simpa using hj')]
    simp [hj']
  · simp [World.frozen?, hb]

/-- texts that are not too long -/
abbrev StrB := { s : Str // s.length ≤ 100000 }
instance : Inhabited StrB := ⟨⟨[], by simp⟩⟩
abbrev encB (x : StrB) : Value := sv x.1
abbrev sortP (zs : List Str) : List Str := zs.mergeSort fun x y => !lessS y x
theorem sortP_perm (zs : List Str) : (sortP zs).Perm zs := List.mergeSort_perm _ _
theorem sortP_le (zs : List Str) : (sortP zs).Pairwise fun x y => lessS y x = false := by
  refine (List.pairwise_mergeSort ?_ ?_ zs).imp (fun {a b} h => by simpa using h)
  · intro a b c h1 h2
    simp only [Bool.not_eq_true'] at h1 h2 ⊢
    cases h3 : lessS c a with
    | false => rfl
    | true =>
      cases h4 : lessS a b with
      | true => have := lessS_trans h3 h4; rw [h2] at this; cases this
      | false => have := lessS_tri h4 h1; subst this; rw [h2] at h3; cases h3
  · intro a b
    cases h : lessS b a with
    | false => simp
    | true => simp [lessS_asym h]
theorem ltOf_less (x y : StrB) : Go.Proofs.ltOf (fun a b : StrB => cmpL (levels a.1) (levels b.1)) x y = lessS x.1 y.1 := by
  unfold Go.Proofs.ltOf lessS
  rw [Bool.eq_iff_iff, decide_eq_true_eq]
  exact cmpL_lt _ _
theorem swo_less : Go.Sort.SWO (Go.Proofs.ltOf (fun a b : StrB => cmpL (levels a.1) (levels b.1))) where
  irrefl x := by rw [ltOf_less]; exact lessS_irr _
  trans x y z h1 h2 := by rw [ltOf_less] at *; exact lessS_trans h1 h2
  ntrans x y z h1 h2 := by
    rw [ltOf_less] at *
    cases h3 : lessS x.1 z.1 with
    | false => rfl
    | true =>
      cases h4 : lessS y.1 x.1 with
      | true => have := lessS_trans h4 h3; rw [h2] at this; cases this
      | false => have := lessS_tri h1 h4; rw [this] at h3; rw [h2] at h3; cases h3
theorem sortF_spec {g : Nat} {v : Value} {zs : List Str} {c : List Blk} (hg : ∀ x y : StrB, FN Tryz.prog g [encB x, encB y] [] (is (.int .i64 (cmpL (levels x.1) (levels y.1))) []))
    (hs : IsSl 9 1 v (strs zs) c) (hz : ∀ x ∈ zs, x.length ≤ 100000) (hl : zs.length ≤ 1000000) :
    FN Tryz.prog 76 [v, .func (.func g) #[] #[]] [c] (fun u h' => u = .tuple #[] ∧ ∃ c', IsSl 9 1 v (strs (sortP zs)) c' ∧ h' = [c']) := by
  have hent := enters Tryz.func76 (by kernel_rfl) rfl
  obtain ⟨a, cap, rfl, hcap, hr⟩ := hs.strsE
  refine ⟨hent, fun E' R w st => ?_⟩
  rcases hr with ⟨rfl, rfl, rfl, rfl⟩ | ⟨b, sp, rfl, rfl, hcp⟩
  · refine (Tryz.slices_SortFunc_none (α := StrB) none 0 _ w).mono ?_
    rintro e w' ⟨rfl, rfl⟩
    exact ⟨_, _, rfl, ⟨rfl, [], by simpa [sortP] using IsSl.nil, rfl⟩, st⟩
  · -- the texts with their bounds
    obtain ⟨ds, rfl⟩ : ∃ ds : List StrB, zs = ds.map (·.1) := ⟨zs.attach.map fun x => ⟨x.1, hz x.1 x.2⟩, by simp⟩
    have hm : strs (ds.map (·.1)) = ds.map encB := by simp [strs]
    rw [hm] at st
    have hb : w.heap[b]? = some (.cells ⟨ds.map encB ++ sp⟩ 9 (0, 0)) := st.cell (b, _) (by simp)
    have hH := holds_row (enc := encB) (ys := ds) hb
    have hblk := (Array.getElem?_eq_some_iff.1 hb).1
    have hcon := Tryz.slices_SortFunc_total (α := StrB) encB (fun _ => rfl) (fun a b => cmpL (levels a.1) (levels b.1)) swo_less g #[] b 0 cap ds.toArray w (hg default default).enters
      (fun m os dk _ x y => by simpa using FN.lays (hg x y) _) hH hblk (by simp at hl ⊢; omega) (fun x y h1 h2 => by
        rw [ltOf_less] at h1 h2
        exact Subtype.ext (lessS_tri h1 h2))
    have el : (ds.map (·.1)).length = ds.toArray.size := by simp
    rw [el]
    refine hcon.mono ?_
    rintro e w' ⟨rfl, k, os, rfl⟩
    have e2 : strs (sortP (ds.map (·.1))) = (ds.mergeSort fun x y => !(Go.Proofs.ltOf (fun a b : StrB => cmpL (levels a.1) (levels b.1))) y x).map encB := by
      have : sortP (ds.map (·.1)) = (ds.mergeSort fun x y => !(Go.Proofs.ltOf (fun a b : StrB => cmpL (levels a.1) (levels b.1))) y x).map (·.1) := by
        symm
        refine List.map_mergeSort fun x _ y _ => ?_
        rw [ltOf_less]
      rw [this]; simp [strs]
    have hlen2 : (sortP (ds.map (·.1))).length = ds.length := by simp [sortP]
    refine ⟨_, [[(b, .cells ⟨(ds.mergeSort fun x y => !(Go.Proofs.ltOf (fun a b : StrB => cmpL (levels a.1) (levels b.1))) y x).map encB ++ sp⟩ 9 (0, 0))]], rfl, ⟨rfl, _, ?_, rfl⟩, Sat.grow ?_ os⟩
    · rw [← e2, ← el]
      refine IsSl.row (E := 9) (k := 1) (b := b) (n := (ds.map (·.1)).length) (c := cap) (l := strs (sortP (ds.map (·.1)))) (sp := sp) (by simp [strs, hlen2]) ?_ (by simpa using hcap)
      simp only [strs, List.length_append, List.length_map, hlen2] at hcp ⊢
      omega
    · exact Sat.putRow (enc := encB) (cs := ds.map encB) st k (ds.mergeSort fun x y => !(Go.Proofs.ltOf (fun a b : StrB => cmpL (levels a.1) (levels b.1))) y x) (by simp)

end Go.Proofs.YtipljeomgdomnaaGreatDoor
/- SortedA -/
namespace Go.Proofs.YtipljeomgdomnaaGreatDoor
open Go

/-! the keys of a map, gathered and sorted -/
theorem appendSeq_keys {m bx : Nat} {L : ML Int} {ck : Nat} {cm : List Blk} [hm : HasC cm m (mapO (Value.int .i64) L ck)] (hw : WfM L ck) (hl : L.length ≤ 1000000) :
    FN Tryz.prog 103 [.slice none 0 0, .func (.func 94) ⟨[]⟩ ⟨[.pointer (some ⟨bx, 0, none⟩)]⟩] [[(bx, cel [.map (some m)] 87)], cm]
      (fun v h => ∃ (xs : ML Int) (row : List Blk), xs.Perm L ∧ IsSl 3 1 v (ints (xs.map (·.1))) row ∧ h = [row, cm]) := by
  refine FN.intro 13 [(0, .slice none 0 0), (1, .func (.func 94) ⟨[]⟩ ⟨[.pointer (some ⟨bx, 0, none⟩)]⟩)] Tryz.func103 rfl (enters Tryz.func103 (by kernel_rfl) rfl) Tryz.ntmps103 rfl rfl ?_
  refine WP.seq <| WP.region <| vn (S1.box rfl rfl) rfl fun b2 => v0 (S0.assign rfl) rfl <| vE <| WP.seq <| WP.seq <| WP.region <| v0 (S0.move rfl) rfl <| vE <| WP.block <| ?_  -- Code.rangeFunc
  refine WP.rangeSup (keys_iter (L := L) (ck := ck) hw) rfl (take1 (atS at0) take0) rfl (fun _ => rfl) ((fun pre h => pre.Nodup ∧ (∀ x ∈ pre, x ∈ L) ∧ ∃ v row, IsSl 3 1 v (ints (pre.map (·.1))) row ∧ h = [(b2, cel [v] 40)] :: row :: cm :: [])) ((fun _ _ _ => False)) ?_ ?_ ?_ ?_ ?_
  · rintro pre h ⟨-, -, v, row, -, rfl⟩
    exact Sup.has
  · exact ⟨_, ⟨by simp, by simp, _, [], .nil, rfl⟩, [], by simp⟩
  · rintro l pre x _ ⟨hnd, hsub, v, row, hsl, rfl⟩ ⟨hxL, hxn⟩
    show WP _ _ _ _ ⟨_, (7, _) :: _, _⟩ _
    have hpl : pre.length ≤ L.length := hnd.length_le_of_subset hsub
    have hnd' : (pre ++ [x]).Nodup := List.nodup_append.2 ⟨hnd, by simp, fun a ha b hb e => by simp at hb; subst hb; subst e; exact hxn ha⟩
    have hsub' : ∀ z ∈ pre ++ [x], z ∈ L := fun z hz => (List.mem_append.1 hz).elim (hsub z) fun h => by simp at h; subst h; exact hxL
    skip
    refine WP.region <| v0 (S0.assign rfl) rfl <| vE <| WP.block <| WP.region <| v0 (S0.load rfl rfl) rfl <| v0 (S0.move rfl) rfl <| vnv (S1.buildSlice rfl (qs := [(0, _)]) rfl rfl) rfl fun b10 => ?_  -- op t11 := append(t8, t10) :[40, 40]
    refine ve (S1.appendL rfl hsl rfl rfl (atS (atS at0)) rfl rfl (by rw [ints_len]; simp; omega)) rfl ?_
    rintro v2 _ ⟨row2, hsl2, rfl⟩
    refine vs (S1.store rfl rfl (by first | rfl | exact IsSl.cv (by assumption))) <| vE <| ?_  -- roundend
    refine ⟨_, ⟨hnd', hsub', v2, row2, ?_, rfl⟩, ?_⟩
    · simpa [ints] using hsl2
    · exact ⟨_, (take1 (atS (atS at0)) (take1 at0 (take1 (atS at0) take0)))⟩
  · rintro D xs h1 hx hS ⟨hnd, hsub, v, row, hsl, rfl⟩ hsup
    refine WP.sup hsup ?_
    refine WP.appc ?_
    skip
    refine WP.seq <| WP.region <| v0 (S0.load rfl rfl) rfl <| v0 (S0.assign rfl) rfl <| vE <| WP.ret <| ?_  -- ret
    refine rm (take1 at0 take0) ?_
    refine Leaves.drop (take1 (atS (atS at0)) (take1 (atS (atS at0)) take0)) ?_
    refine r1 rfl rfl ?_
    exact ⟨xs, row, hS, hsl, rfl⟩
  · rintro D c xs h1 hx hf
    exact hf.elim
theorem sorted_keys {m bx : Nat} {L : ML Int} {ck : Nat} {cm : List Blk} [hm : HasC cm m (mapO (Value.int .i64) L ck)] (hw : WfM L ck) (hl : L.length ≤ 1000000) :
    FN Tryz.prog 63 [.func (.func 94) ⟨[]⟩ ⟨[.pointer (some ⟨bx, 0, none⟩)]⟩] [[(bx, cel [.map (some m)] 87)], cm]
      (fun v h => ∃ (xs : ML Int) (row : List Blk), xs.Perm L ∧ IsSl 3 1 v (ints (sortI (xs.map (·.1)))) row ∧ h = [row, cm]) := by
  have collect : FN Tryz.prog 92 [.func (.func 94) ⟨[]⟩ ⟨[.pointer (some ⟨bx, 0, none⟩)]⟩] [[(bx, cel [.map (some m)] 87)], cm]
      (fun v h => ∃ (xs : ML Int) (row : List Blk), xs.Perm L ∧ IsSl 3 1 v (ints (xs.map (·.1))) row ∧ h = [row, cm]) := by
    refine FN.intro 5 [(0, .func (.func 94) ⟨[]⟩ ⟨[.pointer (some ⟨bx, 0, none⟩)]⟩)] Tryz.func92 rfl (enters Tryz.func92 (by kernel_rfl) rfl) Tryz.ntmps92 rfl rfl ?_
    refine WP.seq <| WP.region <| v0 (S0.assign rfl) rfl <| vE <| WP.seq <| WP.region <| v0 (S0.move rfl) rfl <| ?_  -- op t4 := call F103{slices.AppendSeq[[]int,int]}(Value.slice none 0 0, t3)
    refine vc (S1.callF rfl (appendSeq_keys (ck := ck) hw hl) (take1 at0 (take1 at0 take0))) rfl ?_
    rintro v _ ⟨xs, row, hp, hs, rfl⟩
    refine app ?_
    refine v0 (S0.assign rfl) rfl <| vE <| WP.ret <| ?_  -- ret
    refine r1 rfl rfl ?_
    exact ⟨xs, row, hp, hs, rfl⟩
  refine FN.intro 9 [(0, .func (.func 94) ⟨[]⟩ ⟨[.pointer (some ⟨bx, 0, none⟩)]⟩)] Tryz.func63 rfl (enters Tryz.func63 (by kernel_rfl) rfl) Tryz.ntmps63 rfl rfl ?_
  refine WP.seq <| WP.region <| v0 (S0.assign rfl) rfl <| vE <| WP.seq <| WP.region <| v0 (S0.move rfl) rfl <| ?_  -- op t5 := call F92{slices.Collect[int]}(t4)
  refine vc (S1.callF rfl (collect) (take1 at0 (take1 at0 take0))) rfl ?_
  rintro v _ ⟨xs, row, hp, hs, rfl⟩
  refine app ?_
  refine v0 (S0.assign rfl) rfl <| vE <| WP.seq <| WP.region <| v0 (S0.move rfl) rfl <| ?_  -- op t7 := call F93{slices.Sort[[]int,int]}(t6)
  refine vc (S1.callF rfl (sort_spec (enters Tryz.func93 (by kernel_rfl) rfl) Tryz.slices_Sort_int Tryz.slices_Sort_int_none hs (by have := hp.length_eq; simp; omega)) (take1 at0 take0)) rfl ?_
  rintro _ _ ⟨rfl, row2, hs2, rfl⟩
  refine app ?_
  refine vE <| WP.seq <| WP.region <| v0 (S0.move rfl) rfl <| v0 (S0.assign rfl) rfl <| vE <| WP.ret <| ?_  -- ret
  refine r1 rfl rfl ?_
  exact ⟨xs, row2, hp, hs2, rfl⟩
end Go.Proofs.YtipljeomgdomnaaGreatDoor
/- T10 -/
/-
  What adding and dropping answer; bounds of asks.
-/
namespace Go.Proofs.YtipljeomgdomnaaGreatDoor
open Go

def okA (f : Str) (i : Int) : Bool := filtS f && decide (0 ≤ i)
def addR (L : Asks) (f : Str) (i : Int) : Asks := if okA f i = true then addK L f i else L
def addV (L : Asks) (f : Str) (i : Int) : Int := if okA f i = true then hasK L f i + 1 else 0
def addE (f : Str) (i : Int) : Int := if okA f i = true then 0 else 1
def dropR (L : Asks) (f : Str) (i : Int) : Asks := if okA f i = true ∧ hasK L f i ≠ 0 then lessK L f i else L
def dropV (L : Asks) (f : Str) (i : Int) : Int := if okA f i = true ∧ hasK L f i ≠ 0 then hasK L f i - 1 else 0
def dropE (L : Asks) (f : Str) (i : Int) : Int := if okA f i = true then (if hasK L f i ≠ 0 then 0 else 8) else 1
/-- as many asks at most, each as often at most -/
structure AskB (L : Asks) (m : Nat) : Prop where
  len : L.length ≤ m
  cnt : ∀ x ∈ L, x.2.2 ≤ (m : Int)
theorem AskB.nil (m : Nat) : AskB [] m := ⟨by simp, by simp⟩
theorem AskB.mono {L : Asks} {m n : Nat} (h : AskB L m) (hn : m ≤ n) : AskB L n := ⟨Nat.le_trans h.len hn, fun x hx => by have := h.cnt x hx; omega⟩
theorem AskB.has {L : Asks} {m : Nat} (h : AskB L m) (f : Str) (i : Int) : hasK L f i ≤ (m : Int) := by
  by_cases e : hasK L f i = 0
  · rw [e]; omega
  · have := h.cnt _ (has_ne e); simpa using this
theorem has_nonneg {L : Asks} (h : AsksOk L) (f : Str) (i : Int) : 0 ≤ hasK L f i := by
  by_cases e : hasK L f i = 0
  · rw [e]; omega
  · have := h.pos _ (has_ne e); simp only at this; omega
theorem AskB.add {L : Asks} {m : Nat} (h : AskB L m) (f : Str) (i : Int) : AskB (addK L f i) (m + 1) := by
  unfold addK
  by_cases hz : hasK L f i = 0
  · rw [if_pos hz]
    refine ⟨by have := h.len; simp; omega, fun x hx => ?_⟩
    rcases List.mem_append.1 hx with hx | hx
    · have := h.cnt x hx; omega
    · simp at hx; subst hx; simp; omega
  · rw [if_neg hz]
    refine ⟨by have := h.len; simp; omega, fun x hx => ?_⟩
    obtain ⟨y, hy, rfl⟩ := List.mem_map.1 hx
    have := h.cnt y hy
    split
    · simp only; omega
    · omega
theorem AskB.addR {L : Asks} {m : Nat} (h : AskB L m) (f : Str) (i : Int) : AskB (addR L f i) (m + 1) := by
  unfold Go.Proofs.YtipljeomgdomnaaGreatDoor.addR
  split
  · exact h.add f i
  · exact h.mono (Nat.le_succ m)
theorem AskB.filter {L : Asks} {m : Nat} (h : AskB L m) (p : Str × Int × Int → Bool) : AskB (L.filter p) m := ⟨Nat.le_trans (List.length_filter_le _ _) h.len, fun x hx => h.cnt x (List.mem_filter.1 hx).1⟩
theorem AskB.less {L : Asks} {m : Nat} (h : AskB L m) (f : Str) (i : Int) : AskB (lessK L f i) m := by
  unfold lessK
  split
  · exact h.filter _
  · refine ⟨by have := h.len; simp; omega, fun x hx => ?_⟩
    obtain ⟨y, hy, rfl⟩ := List.mem_map.1 hx
    have := h.cnt y hy
    split
    · simp only; omega
    · omega
theorem AskB.dropR {L : Asks} {m : Nat} (h : AskB L m) (f : Str) (i : Int) : AskB (dropR L f i) m := by
  unfold Go.Proofs.YtipljeomgdomnaaGreatDoor.dropR
  split
  · exact h.less f i
  · exact h
theorem AskB.leave {L : Asks} {m : Nat} (h : AskB L m) (i : Int) : AskB (leaveK L i) m := h.filter _
theorem AsksOk.addR {L : Asks} (h : AsksOk L) (f : Str) (i : Int) : AsksOk (addR L f i) := by
  unfold Go.Proofs.YtipljeomgdomnaaGreatDoor.addR
  split
  · rename_i e; simp only [okA, Bool.and_eq_true, decide_eq_true_eq] at e; exact h.add e.1 e.2
  · exact h
theorem AsksOk.dropR {L : Asks} (h : AsksOk L) (f : Str) (i : Int) : AsksOk (dropR L f i) := by
  unfold Go.Proofs.YtipljeomgdomnaaGreatDoor.dropR
  split
  · rename_i e; simp only [okA, Bool.and_eq_true, decide_eq_true_eq] at e; exact h.less e.1.1 e.1.2
  · exact h
/-- what a node tells of its own filter -/
theorem Tells.node {t : HT} {L : Asks} (h : Tells t L) {f : Str} {b mk ma ck ca : Nat} {E : AL} {K : HF} (hs : HT.sub (levels f) t = some (.nd b mk ma ck ca E K)) (i : Int) : getA E i = hasK L f i := by
  have := HT.cnt_sub (levels f) [] t i
  rw [List.append_nil, hs, h.cnt] at this
  exact this.symm
theorem Tells.none {t : HT} {L : Asks} (h : Tells t L) {f : Str} (hs : HT.sub (levels f) t = none) (i : Int) : hasK L f i = 0 := by
  have := HT.cnt_sub (levels f) [] t i
  rw [List.append_nil, hs, h.cnt] at this
  exact this
end Go.Proofs.YtipljeomgdomnaaGreatDoor
/- W6 -/
namespace Go.Proofs.YtipljeomgdomnaaGreatDoor
open Go

theorem filtL_mem : ∀ {l : List Str}, filtL l = true → ∀ x ∈ l, x.length ≤ 16 := by
  intro l h x hx
  rw [filtL_iff] at h
  obtain ⟨i, hi, rfl⟩ := List.getElem_of_mem hx
  have hb := h i l[i] (by simp [hi])
  simp only [badAt, Bool.and_eq_false_iff, Bool.not_eq_false', decide_eq_true_eq] at hb
  have hn : nameS l[i] = true → l[i].length ≤ 16 := fun hn => by
    simp only [nameS, Bool.and_eq_true, decide_eq_true_eq] at hn; exact hn.2
  rcases hb with h1 | h1 | h1
  · exact hn h1
  · rw [h1]; decide
  · simp only [Bool.or_eq_false_iff, Bool.not_eq_false', decide_eq_true_eq] at h1
    rw [h1.1]; decide
theorem filt_len {f : Str} (h : filtS f = true) : f.length ≤ 200 := by
  obtain ⟨h1, h2⟩ := filtS_L h
  have h3 := unl_len (levels f) (levels_ne f)
  rw [unl_levels] at h3
  have h4 := sumL_le (l := levels f) (m := 16) (filtL_mem h2)
  omega
/-- the trie at block tb has the asks L -/
def IsTr (tb : Nat) (L : Asks) (c : List Blk) : Prop := ∃ t : HT, Tells t L ∧ t.dep ≤ 8 ∧ c = (tb, cel [t.ptr] 81) :: t.blks 101
theorem cmp1_spec {a b : Str} (ha : a.length ≤ 100000) (hb : b.length ≤ 100000) : FN Tryz.prog 85 [sv a, sv b] [] (is (.int .i64 (cmpL (levels a) (levels b))) []) := by
  have hal := levels_len a
  refine FN.intro 10 [(0, sv a), (1, sv b)] Tryz.func85 rfl (enters Tryz.func85 (by kernel_rfl) rfl) Tryz.ntmps85 rfl rfl ?_
  refine WP.seq <| WP.region <| v0 (S0.assign rfl) rfl <| vE <| WP.seq <| WP.region <| v0 (S0.move rfl) rfl <| ?_  -- op t6 := call F62{rivulet/topic.Levels}(t5)
  refine vc (S1.callF rfl (levels_spec (show a.length ≤ 1000000 by omega)) take0) rfl ?_
  rintro _ _ ⟨ra, hsa, rfl⟩
  refine app ?_
  refine v0 (S0.move rfl) rfl <| ?_  -- op t8 := call F62{rivulet/topic.Levels}(t7)
  refine vc (S1.callF rfl (levels_spec (show b.length ≤ 1000000 by omega)) take0) rfl ?_
  rintro _ _ ⟨rb, hsb, rfl⟩
  refine app ?_
  -- (nothing to walk: op t9 := call F86{slices.Compare[[]string,string]}(t6, t8))
  refine vcd (S1.callF rfl (compare_spec hsa.rdS hsb.rdS (by omega)) (take1 (atS at0) (take1 at0 take0))) rfl ?_
  refine v0 (S0.assign rfl) rfl <| vE <| WP.ret <| ?_  -- ret
  refine Leaves.drop take0 ?_
  refine r1 rfl rfl ⟨?_, rfl⟩
  rfl
theorem sortP_sorted {zs : List Str} (hn : zs.Nodup) : SortedS (sortP zs) := by
  have h2 : (sortP zs).Nodup := (sortP_perm zs).nodup_iff.2 hn
  refine (List.Pairwise.and (sortP_le zs) h2).imp fun {a b} ⟨h3, h4⟩ => ?_
  cases h : lessS a b with
  | true => rfl
  | false => exact absurd (lessS_tri h h3) h4
theorem sorted_spec {g : Nat} {caps : List Value} {so : AL → Bool} {tb : Nat} {t : HT} {cso : List Blk} {M : List Str} (hw : t.wf) (hd : t.dep ≤ 8) (hM : SortedS M) (hp : ∀ p, p ∈ t.paths so ↔ ∃ f, p = levels f ∧ f ∈ M) (hl : M.length ≤ 1000000) (hx : ∀ f ∈ M, f.length ≤ 1000)
    (hso : SoOK g caps so ((tb, cel [t.ptr] 81) :: t.blks 101) cso) :
    FN Tryz.prog 58 [.pointer (some ⟨tb, 0, none⟩), .func (.func g) ⟨[]⟩ ⟨caps⟩] [(tb, cel [t.ptr] 81) :: t.blks 101, cso]
      (fun u h => ∃ row, IsSl 9 1 u (strs M) row ∧ h = [row, (tb, cel [t.ptr] 81) :: t.blks 101, cso]) := by
  have hnd := HT.paths_nodup so t hw
  have hnm : ((t.paths so).map unl).Nodup := by
    rw [List.nodup_iff_pairwise_ne, List.pairwise_map]
    refine (List.nodup_iff_pairwise_ne.1 hnd).imp_of_mem fun {a b} ha hb hne e => hne ?_
    obtain ⟨f, rfl, -⟩ := (hp a).1 ha
    obtain ⟨f2, rfl, -⟩ := (hp b).1 hb
    rw [unl_levels, unl_levels] at e
    rw [e]
  have hmm : ∀ f, f ∈ (t.paths so).map unl ↔ f ∈ M := fun f => by
    rw [List.mem_map]
    constructor
    · rintro ⟨p, h1, rfl⟩
      obtain ⟨f, rfl, h2⟩ := (hp p).1 h1
      rw [unl_levels]; exact h2
    · intro h; exact ⟨levels f, (hp _).2 ⟨f, rfl, h⟩, unl_levels f⟩
  have hlen : (t.paths so).length = M.length := by
    have := ((List.perm_ext_iff_of_nodup hnm hM.nodup).2 hmm).length_eq
    simpa using this
  refine FN.intro 15 [(0, .pointer (some ⟨tb, 0, none⟩)), (1, .func (.func g) ⟨[]⟩ ⟨caps⟩)] Tryz.func58 rfl (enters Tryz.func58 (by kernel_rfl) rfl) Tryz.ntmps58 rfl rfl ?_
  refine WP.perm (h' := [(tb, cel [t.ptr] 81) :: t.blks 101, cso, [], []]) (k := []) (by simp) ?_
  refine WP.seq <| WP.region <| v0 (S0.assign rfl) rfl <| vE <| WP.seq <| WP.region <| vn (S1.alloc) rfl fun b5 => vE <| WP.seq <| WP.region <| v0 (S0.move rfl) rfl <| v0 (S0.nilCheck rfl) rfl <| v0 (S0.fieldAddr rfl) rfl <| v0 (S0.load rfl rfl) rfl <| v0 (S0.move rfl) rfl <| ?_  -- op t11 := call F84{rivulet/trie.list}(t9, Value.slice none 0 0, t10, t5)
  refine vc (S1.callF rfl (list_spec t hw (ahead := []) (l := []) (row := []) (ac := []) (fun z hz => List.mem_cons_of_mem _ hz) hso Rd.nil IsSl.nil (by simp; omega) (by simp; omega) (fun p hpp x hxx => by
    obtain ⟨f, rfl, hf⟩ := (hp p).1 hpp
    have := levels_mem_len f x (by simpa using hxx)
    have := hx f hf
    omega)) (take1 at0 (take1 (atS (atS at0)) (take1 at0 (take1 (atS at0) (take1 at0 take0)))))) rfl ?_
  rintro _ _ ⟨ps, ov, row, hps, hs, rfl, rfl⟩
  refine app ?_
  have hs : IsSl 9 1 ov (strs (ps.map unl)) row := by simpa using hs
  have hpl : ps.length = M.length := by rw [hps.length_eq, hlen]
  have hpm : ∀ f, f ∈ ps.map unl ↔ f ∈ M := fun f => by rw [(hps.map unl).mem_iff]; exact hmm f
  refine vE <| WP.seq <| WP.region <| v0 (S0.load rfl rfl) rfl <| ?_  -- op t13 := call F76{slices.SortFunc[[]string,string]}(t12, F85)
  refine vc (S1.callF rfl (sortF_spec (g := 85) (fun x y => cmp1_spec x.2 y.2) hs (fun x hxm => by have := hx x ((hpm x).1 hxm); omega) (by simp; omega)) (take1 (atS at0) take0)) rfl ?_
  rintro _ _ ⟨rfl, row2, hs2, rfl⟩
  refine app ?_
  have e : sortP (ps.map unl) = M := sortedS_ext (sortP_sorted (((hps.map unl).nodup_iff).2 hnm)) hM fun f => by rw [(sortP_perm _).mem_iff]; exact hpm f
  rw [e] at hs2
  refine vE <| WP.seq <| WP.region <| v0 (S0.load rfl rfl) rfl <| v0 (S0.assign rfl) rfl <| vE <| WP.ret <| ?_  -- ret
  refine Leaves.drop (take1 at0 (take1 (atS at0) (take1 (atS (atS at0)) take0))) ?_
  refine r1 rfl rfl ?_
  exact ⟨row2, hs2, rfl⟩

theorem all1_spec (ma : Nat) (A : AL) (ca : Nat) {ct cso : List Blk} (h : HasC ct ma (mapO (Value.int .i64) (aml A) ca)) : FN Tryz.prog 59 [.map (some ma)] [ct, cso] (is (.bool (decide (0 < A.length))) [ct, cso]) := by
  refine FN.intro 6 [(0, .map (some ma))] Tryz.func59 rfl (enters Tryz.func59 (by kernel_rfl) rfl) Tryz.ntmps59 rfl rfl ?_
  refine WP.seq <| WP.region <| v0 (S0.assign rfl) rfl <| vE <| WP.seq <| WP.region <| v0 (S0.move rfl) rfl <| v0 (S0.lenM rfl) rfl <| v0 (S0.cmp rfl rfl rfl) rfl <| v0 (S0.assign rfl) rfl <| vE <| WP.ret <| ?_  -- ret
  refine r1 rfl rfl ⟨?_, rfl⟩
  congr 1
  simp [aml]
theorem of1_spec (ma : Nat) (A : AL) (ca : Nat) {ct : List Blk} {b : Nat} {i : Int} (h : HasC ct ma (mapO (Value.int .i64) (aml A) ca)) : FN Tryz.prog 95 [.map (some ma), .pointer (some ⟨b, 0, none⟩)] [ct, [(b, cel [.int .i64 i] 3)]] (is (.bool (decide (0 < getA A i))) [ct, [(b, cel [.int .i64 i] 3)]]) := by
  refine FN.intro 8 [(0, .map (some ma)), (1, .pointer (some ⟨b, 0, none⟩))] Tryz.func95 rfl (enters Tryz.func95 (by kernel_rfl) rfl) Tryz.ntmps95 rfl rfl ?_
  refine WP.seq <| WP.region <| v0 (S0.assign rfl) rfl <| vE <| WP.seq <| WP.region <| v0 (S0.move rfl) rfl <| v0 (S0.load rfl rfl) rfl <| ?_  -- op t6 := lookup 87 t4 t5 false
  refine v0 (S0.lookupV (ek := Value.int .i64) (k := i) rfl rfl (aml_read A i)) rfl <| ?_
  refine v0 (S0.cmp rfl rfl rfl) rfl <| v0 (S0.assign rfl) rfl <| vE <| WP.ret <| ?_  -- ret
  refine r1 rfl rfl ⟨?_, rfl⟩
  rfl
theorem allK_len (L : Asks) : (allK L).length ≤ L.length := by
  have := foldl_len (L.map (·.1)) []
  simpa [allK] using this
theorem all_spec {tb : Nat} {L : Asks} {c : List Blk} {m : Nat} (h : IsTr tb L c) (hb : AskB L m) (hm : m ≤ 1000000) : FN Tryz.prog 36 [.pointer (some ⟨tb, 0, none⟩)] [c] (fun u h => ∃ row, IsSl 9 1 u (strs (allK L)) row ∧ h = [row, c]) := by
  obtain ⟨t, ht, hd, rfl⟩ := h
  have hl := allK_len L
  have hbl := hb.len
  refine FN.intro 5 [(0, .pointer (some ⟨tb, 0, none⟩))] Tryz.func36 rfl (enters Tryz.func36 (by kernel_rfl) rfl) Tryz.ntmps36 rfl rfl ?_
  refine WP.perm (h' := [(tb, cel [t.ptr] 81) :: t.blks 101, []]) (k := []) (by simp) ?_
  refine WP.seq <| WP.region <| v0 (S0.assign rfl) rfl <| vE <| WP.seq <| WP.region <| v0 (S0.move rfl) rfl <| ?_  -- op t4 := call F58{(*rivulet/trie.Trie).sorted}(t3, F59)
  refine vc (S1.callF rfl (sorted_spec (cso := []) ht.wf hd (allK_sorted L) ht.all_paths (by omega) (fun f hf => by
    obtain ⟨i, n, hm⟩ := mem_allK.1 hf
    have := filt_len (ht.ok.filt _ hm).1
    simp only at this
    omega) (fun ma A ca hA => all1_spec ma A ca hA)) (take1 at0 (take1 at0 take0))) rfl ?_
  rintro u _ ⟨row, hs, rfl⟩
  refine app ?_
  refine v0 (S0.assign rfl) rfl <| vE <| WP.ret <| ?_  -- ret
  refine Leaves.drop (take1 at0 (take1 at0 take0)) ?_
  refine r1 rfl rfl ?_
  exact ⟨row, hs, rfl⟩
theorem of_spec {tb : Nat} {L : Asks} {c : List Blk} {m : Nat} (h : IsTr tb L c) (hb : AskB L m) (hm : m ≤ 1000000) (i : Int) : FN Tryz.prog 70 [.pointer (some ⟨tb, 0, none⟩), .int .i64 i] [c] (fun u h => ∃ row, IsSl 9 1 u (strs (ofK L i)) row ∧ h = [row, c]) := by
  obtain ⟨t, ht, hd, rfl⟩ := h
  have hl := ofK_len ht.ok i
  have hfl := List.length_filter_le (fun x => decide (x.2.1 = i)) L
  have hbl := hb.len
  refine FN.intro 8 [(0, .pointer (some ⟨tb, 0, none⟩)), (1, .int .i64 i)] Tryz.func70 rfl (enters Tryz.func70 (by kernel_rfl) rfl) Tryz.ntmps70 rfl rfl ?_
  refine WP.seq <| WP.region <| vn (S1.box rfl rfl) rfl fun b3 => v0 (S0.assign rfl) rfl <| vE <| WP.seq <| WP.region <| v0 (S0.move rfl) rfl <| v0 (S0.makeFunc rfl rfl) rfl <| ?_  -- op t7 := call F58{(*rivulet/trie.Trie).sorted}(t5, t6)
  refine vc (S1.callF rfl (sorted_spec (cso := [(b3, cel [.int .i64 i] 3)]) (so := fun A => decide (0 < getA A i)) ht.wf hd (ofK_sorted L i) (ht.of_paths i) (by omega) (fun f hf => by
    obtain ⟨n, hm⟩ := mem_ofK.1 hf
    have := filt_len (ht.ok.filt _ hm).1
    simp only at this
    omega) (fun ma A ca hA => of1_spec ma A ca hA)) (take1 (atS at0) (take1 at0 take0))) rfl ?_
  rintro u _ ⟨row, hs, rfl⟩
  refine app ?_
  refine v0 (S0.assign rfl) rfl <| vE <| WP.ret <| ?_  -- ret
  refine Leaves.drop (take1 at0 (take1 at0 take0)) ?_
  refine r1 rfl rfl ?_
  exact ⟨row, hs, rfl⟩
end Go.Proofs.YtipljeomgdomnaaGreatDoor
/- W7 -/
namespace Go.Proofs.YtipljeomgdomnaaGreatDoor
open Go

theorem take_one {α : Type} {l : List α} {i : Nat} {x : α} (h : l[i]? = some x) : l.take (i + 1) = l.take i ++ [x] := by rw [List.take_add_one, h]; rfl
theorem split_one {α : Type} {l : List α} {i : Nat} {x : α} (h : l[i]? = some x) : l = l.take i ++ ([x] ++ l.drop (i + 1)) := by
  have := take_one h
  rw [← List.append_assoc, ← this, List.take_append_drop]
theorem HT.sub_one {b mk ma ck ca : Nat} {A : AL} {K : HF} (x : Str) : HT.sub [x] (.nd b mk ma ck ca A K) = K.get x := by
  simp only [HT.sub]
  cases K.get x <;> rfl
theorem ptr_nd (b mk ma ck ca : Nat) (A : AL) (K : HF) : (HT.nd b mk ma ck ca A K).ptr = .pointer (some ⟨b, 0, none⟩) := rfl
theorem find0_spec {tb : Nat} {t : HT} {f : Str} (hw : t.wf) (hf : f.length ≤ 1000) : FN Tryz.prog 71 [.pointer (some ⟨tb, 0, none⟩), sv f, .bool false] [(tb, cel [t.ptr] 81) :: t.blks 101]
    (is (match HT.sub (levels f) t with | some s => s.ptr | none => .pointer none) [(tb, cel [t.ptr] 81) :: t.blks 101]) := by
  have hll := levels_len f
  refine FN.intro 46 [(0, .pointer (some ⟨tb, 0, none⟩)), (1, sv f), (2, .bool false)] Tryz.func71 rfl (enters Tryz.func71 (by kernel_rfl) rfl) Tryz.ntmps71 rfl rfl ?_
  refine WP.seq <| WP.region <| v0 (S0.assign rfl) rfl <| vE <| WP.seq <| WP.region <| v0 (S0.move rfl) rfl <| v0 (S0.nilCheck rfl) rfl <| v0 (S0.fieldAddr rfl) rfl <| v0 (S0.load rfl rfl) rfl <| v0 (S0.assign rfl) rfl <| vE <| WP.seq <| WP.seq <| WP.region <| v0 (S0.move rfl) rfl <| ?_  -- op t16 := call F62{rivulet/topic.Levels}(t15)
  refine vc (S1.callF rfl (levels_spec (show f.length ≤ 1000000 by omega)) take0) rfl ?_
  rintro _ _ ⟨row, hs, rfl⟩
  refine app ?_
  generalize levels f = A at hll hs
  obtain ⟨a, cap, rfl, hcap, hrow⟩ := hs.strsE
  refine v0 (S0.lenSl rfl) rfl <| v0 (S0.move rfl) rfl <| vE <| WP.block <| ?_  -- Code.loop
  refine WP.loop (fun st : Nat × HT => st.1 ≤ A.length ∧ HT.sub (A.take st.1) t = some st.2) (fun st : Nat × HT => [(0, .pointer (some ⟨tb, 0, none⟩)), (1, sv f), (2, .bool false), (7, st.2.ptr), (16, .slice a A.length cap), (17, .int .i64 (A.length : Int)), (18, .int .i64 (st.1 : Int))]) (fun st : Nat × HT => [(tb, cel [t.ptr] 81) :: t.blks 101, row]) (fun st : Nat × HT => A.length - st.1) ((0, t)) (⟨Nat.zero_le _, rfl⟩) ⟨rfl, rfl, rfl, rfl, rfl, rfl, rfl, trivial⟩ ⟨_, (take1 (atS at0) (take1 at0 take0))⟩ (fun st hinv => ?_) 
  obtain ⟨i, s⟩ := st
  obtain ⟨hi, hsub⟩ := hinv
  dsimp only at hi hsub ⊢
  refine WP.seq <| WP.region <| v0 (S0.cmp rfl rfl rfl) rfl <| vE <| WP.seq <| ?_  -- cond
  first | refine WP.condP rfl (fun h1 => ?_) (fun h1 => ?_) | refine WP.condN rfl (fun h1 => ?_) (fun h1 => ?_) | refine WP.cond rfl (fun h1 => ?_) (fun h1 => ?_)
  · skip
    have hlt : i < A.length := by omega
    rcases hrow with ⟨e, -⟩ | ⟨b1, sp1, rfl, rfl, hsp1⟩
    · rw [e] at hlt; simp at hlt
    have hx : A[i]? = some A[i] := by simp [hlt]
    generalize A[i] = x at hx
    cases s with
    | nd b mk ma ck ca E K =>
      obtain ⟨i1, i2, i3, -⟩ := HT.node_mem (ct := (tb, cel [t.ptr] 81) :: t.blks 101) (fun z hz => List.mem_cons_of_mem _ (HT.sub_mem _ hsub z hz))
      simp only [ptr_nd]
      refine WP.skip <| WP.seq <| WP.block <| WP.seq <| WP.region <| ?_  -- op t20 := indexAddr 23 t16 t18
      refine v0 (S0.index1 rfl rfl hlt) rfl <| ?_
      refine v0 (S0.load rfl (strs_get hx)) rfl <| ?_
      refine v0 (S0.assign rfl) rfl <| vE <| WP.seq <| WP.region <| v0 (S0.move rfl) rfl <| v0 (S0.nilCheck rfl) rfl <| v0 (S0.fieldAddr rfl) rfl <| v0 (S0.load rfl rfl) rfl <| v0 (S0.move rfl) rfl <| ?_  -- op t27 := lookup 99 t25 t26 false
      refine v0 (S0.lookup (ek := sv) (k := x) rfl rfl) rfl <| ?_
      rw [HF.ptr_ml]
      skip
      unfold HF.ptr
      have hst : ∀ q, HT.sub (A.take i ++ q) t = HT.sub q (.nd b mk ma ck ca E K) := fun q => by rw [HT.sub_app, hsub]; rfl
      cases hK : K.get x with
      | none =>
        dsimp only
        skip
        refine v0 (S0.assign rfl) rfl <| vE <| WP.seq <| WP.seq <| WP.region <| v0 (S0.move rfl) rfl <| v0 (S0.nilP rfl rfl rfl rfl) rfl <| v0 (S0.move rfl) rfl <| ?_  -- guard t30 (wants True) at t31 := move t2 [if #2=True]
        refine csTh (t := 30) rfl (rfl) ?_
        refine gT rfl <| v0 (S0.move rfl) rfl <| gT rfl <| v0 (S0.not rfl) rfl <| v0 (S0.pickT rfl rfl) rfl <| vE <| ?_  -- cond
        refine WP.condTh rfl (rfl) ?_
        refine WP.seq <| WP.region <| v0 (S0.assign rfl) rfl <| vE <| WP.ret <| ?_  -- ret
        refine Leaves.drop (take1 at0 take0) ?_
        refine r1 rfl rfl ⟨?_, rfl⟩
        have : HT.sub A t = none := by
          rw [split_one hx, hst, HT.sub_app, HT.sub_one, hK]; rfl
        rw [this]
      | some u =>
        skip
        dsimp only
        refine v0 (S0.assign rfl) rfl <| vE <| WP.seq <| WP.seq <| WP.region <| v0 (S0.move rfl) rfl <| v0 (S0.nilP rfl rfl rfl rfl) rfl <| v0 (S0.move rfl) rfl <| ?_  -- guard t30 (wants True) at t31 := move t2 [if #2=True]
        refine csFh (t := 30) rfl (rfl) ?_
        refine gF rfl rfl <| gF rfl rfl <| v0 (S0.pickF rfl rfl) rfl <| vE <| WP.condF rfl <| WP.skip <| WP.seq <| WP.seq <| WP.region <| v0 (S0.move rfl) rfl <| v0 (S0.nilP rfl rfl rfl rfl) rfl <| vE <| ?_  -- cond
        refine WP.condFh rfl (rfl) ?_
        refine WP.skip <| WP.region <| v0 (S0.move rfl) rfl <| v0 (S0.assign rfl) rfl <| vE <| WP.region <| v0 (S0.ari rfl rfl rfl (wrap_i64 (by omega))) rfl <| v0 (S0.move rfl) rfl <| vE <| ?_  -- roundend
        exact ⟨(i + 1, u), (by first | exact ⟨hlt, by rw [take_one hx, hst, HT.sub_one, hK]⟩ | (dsimp only; exact ⟨hlt, by rw [take_one hx, hst, HT.sub_one, hK]⟩)), (show A.length - (i + 1) < A.length - i by omega), ⟨⟨rfl, rfl, rfl, rfl, rfl, rfl, rfl, trivial⟩, rfl, rfl⟩, ⟨_, (take1 at0 (take1 at0 take0))⟩⟩
  · skip
    have e : i = A.length := by omega
    rw [e, List.take_length] at hsub
    rw [hsub]
    refine WP.exit <| WP.seq <| WP.region <| v0 (S0.move rfl) rfl <| v0 (S0.assign rfl) rfl <| vE <| WP.ret <| ?_  -- ret
    refine Leaves.drop (take1 at0 take0) ?_
    refine r1 rfl rfl ⟨?_, rfl⟩
    rfl
theorem HF.dep_pushK {K : HF} {x : Str} {m n : Nat} {b mk ma c1 c2 : Nat} (h : K.dep ≤ n) (hn : 1 ≤ n) : (K.push x m (.nd b mk ma c1 c2 [] .nil)).dep ≤ n := HF.dep_push h (by simpa [HT.dep, HF.dep] using hn)
theorem find1_spec {tb : Nat} {t : HT} {f : Str} (hw : t.wf) (hd : t.dep ≤ 8) (hf : f.length ≤ 1000) (hl8 : (levels f).length ≤ 8) : FN Tryz.prog 71 [.pointer (some ⟨tb, 0, none⟩), sv f, .bool true] [(tb, cel [t.ptr] 81) :: t.blks 101]
    (fun v h => ∃ t' s : HT, t'.wf ∧ t'.b = t.b ∧ (∀ p i, t'.cnt p i = t.cnt p i) ∧ t'.dep ≤ 8 ∧ HT.sub (levels f) t' = some s ∧ v = s.ptr ∧ h = [(tb, cel [t.ptr] 81) :: t'.blks 101]) := by
  have hll := levels_len f
  refine FN.intro 46 [(0, .pointer (some ⟨tb, 0, none⟩)), (1, sv f), (2, .bool true)] Tryz.func71 rfl (enters Tryz.func71 (by kernel_rfl) rfl) Tryz.ntmps71 rfl rfl ?_
  refine WP.seq <| WP.region <| v0 (S0.assign rfl) rfl <| vE <| WP.seq <| WP.region <| v0 (S0.move rfl) rfl <| v0 (S0.nilCheck rfl) rfl <| v0 (S0.fieldAddr rfl) rfl <| v0 (S0.load rfl rfl) rfl <| v0 (S0.assign rfl) rfl <| vE <| WP.seq <| WP.seq <| WP.region <| v0 (S0.move rfl) rfl <| ?_  -- op t16 := call F62{rivulet/topic.Levels}(t15)
  refine vc (S1.callF rfl (levels_spec (show f.length ≤ 1000000 by omega)) take0) rfl ?_
  rintro _ _ ⟨row, hs, rfl⟩
  refine app ?_
  generalize levels f = A at hll hs hl8
  obtain ⟨a, cap, rfl, hcap, hrow⟩ := hs.strsE
  refine v0 (S0.lenSl rfl) rfl <| v0 (S0.move rfl) rfl <| vE <| WP.block <| ?_  -- Code.loop
  refine WP.loop (fun st : Nat × HT × HT => st.1 ≤ A.length ∧ st.2.1.wf ∧ st.2.1.b = t.b ∧ (∀ p i, st.2.1.cnt p i = t.cnt p i) ∧ st.2.1.dep ≤ 8 ∧ HT.sub (A.take st.1) st.2.1 = some st.2.2) (fun st : Nat × HT × HT => [(0, .pointer (some ⟨tb, 0, none⟩)), (1, sv f), (2, .bool true), (7, st.2.2.ptr), (16, .slice a A.length cap), (17, .int .i64 (A.length : Int)), (18, .int .i64 (st.1 : Int))]) (fun st : Nat × HT × HT => [(tb, cel [t.ptr] 81) :: st.2.1.blks 101, row]) (fun st : Nat × HT × HT => A.length - st.1) ((0, t, t)) (⟨Nat.zero_le _, hw, rfl, fun _ _ => rfl, hd, rfl⟩) ⟨rfl, rfl, rfl, rfl, rfl, rfl, rfl, trivial⟩ ⟨_, (take1 (atS at0) (take1 at0 take0))⟩ (fun st hinv => ?_) 
  obtain ⟨i, t1, s⟩ := st
  obtain ⟨hi, hw1, hb1, hc1, hd1, hsub⟩ := hinv
  dsimp only at hi hw1 hb1 hc1 hd1 hsub ⊢
  refine WP.seq <| WP.region <| v0 (S0.cmp rfl rfl rfl) rfl <| vE <| WP.seq <| ?_  -- cond
  first | refine WP.condP rfl (fun h1 => ?_) (fun h1 => ?_) | refine WP.condN rfl (fun h1 => ?_) (fun h1 => ?_) | refine WP.cond rfl (fun h1 => ?_) (fun h1 => ?_)
  · skip
    have hlt : i < A.length := by omega
    rcases hrow with ⟨e, -⟩ | ⟨b1, sp1, rfl, rfl, hsp1⟩
    · rw [e] at hlt; simp at hlt
    have hx : A[i]? = some A[i] := by simp [hlt]
    generalize A[i] = x at hx
    cases s with
    | nd b mk ma ck ca E K =>
      obtain ⟨i1, i2, i3, -⟩ := HT.node_mem (ct := (tb, cel [t.ptr] 81) :: t1.blks 101) (fun z hz => List.mem_cons_of_mem _ (HT.sub_mem _ hsub z hz))
      simp only [ptr_nd]
      refine WP.skip <| WP.seq <| WP.block <| WP.seq <| WP.region <| ?_  -- op t20 := indexAddr 23 t16 t18
      refine v0 (S0.index1 rfl rfl hlt) rfl <| ?_
      refine v0 (S0.load rfl (strs_get hx)) rfl <| ?_
      refine v0 (S0.assign rfl) rfl <| vE <| WP.seq <| WP.region <| v0 (S0.move rfl) rfl <| v0 (S0.nilCheck rfl) rfl <| v0 (S0.fieldAddr rfl) rfl <| v0 (S0.load rfl rfl) rfl <| v0 (S0.move rfl) rfl <| ?_  -- op t27 := lookup 99 t25 t26 false
      refine v0 (S0.lookup (ek := sv) (k := x) rfl rfl) rfl <| ?_
      rw [HF.ptr_ml]
      skip
      unfold HF.ptr
      have hst : ∀ q, HT.sub (A.take i ++ q) t1 = HT.sub q (.nd b mk ma ck ca E K) := fun q => by rw [HT.sub_app, hsub]; rfl
      cases hK : K.get x with
      | none =>
        dsimp only
        skip
        refine v0 (S0.assign rfl) rfl <| vE <| WP.seq <| WP.seq <| WP.region <| v0 (S0.move rfl) rfl <| v0 (S0.nilP rfl rfl rfl rfl) rfl <| v0 (S0.move rfl) rfl <| ?_  -- guard t30 (wants True) at t31 := move t2 [if #2=True]
        refine csTh (t := 30) rfl (rfl) ?_
        refine gT rfl <| v0 (S0.move rfl) rfl <| gT rfl <| v0 (S0.not rfl) rfl <| v0 (S0.pickT rfl rfl) rfl <| vE <| ?_  -- cond
        refine WP.condFh rfl (rfl) ?_
        refine WP.skip <| WP.seq <| WP.seq <| WP.region <| v0 (S0.move rfl) rfl <| v0 (S0.nilP rfl rfl rfl rfl) rfl <| vE <| ?_  -- cond
        refine WP.condTh rfl (rfl) ?_
        refine WP.seq <| WP.region <| ?_  -- op t36 := call F46{rivulet/trie.fresh}()
        refine vc (S1.callF rfl (fresh_spec) take0) rfl ?_
        rintro _ _ ⟨b2, mk2, ma2, rfl, rfl⟩
        refine app ?_
        refine v0 (S0.assign rfl) rfl <| vE <| WP.region <| v0 (S0.move rfl) rfl <| v0 (S0.nilCheck rfl) rfl <| v0 (S0.fieldAddr rfl) rfl <| v0 (S0.load rfl rfl) rfl <| v0 (S0.move rfl) rfl <| v0 (S0.move rfl) rfl <| ?_  -- op mapUpdate 99 t40 t41 t42
        obtain ⟨C, hC1, hC2⟩ := HT.split 101 hsub
        refine WO.perm (h' := [[(mk, mapO sv K.ml ck)], (b, .cells ⟨[.map (some mk), .map (some ma)]⟩ 101 (0, 0)) :: (tb, cel [t.ptr] 81) :: (ma, mapO (Value.int .i64) (aml E) ca) :: (K.blks 101 ++ C), (HT.nd b2 mk2 ma2 0 0 [] .nil).blks 101, [(b1, .cells ⟨strs A ++ sp1⟩ 9 (0, 0))]]) (k := []) (pm fun a_ => by have h0_ := pm_of (hC1) a_; (try simp only [List.flatten_append, List.flatten_cons, List.flatten_nil, List.append_nil, List.cons_append, List.nil_append, List.append_assoc, nOf_app, nOf_cons, nOf_nil, Nat.add_zero, Nat.zero_add, List.map_append, List.map_cons, List.map_nil, cel, sv, HT.blks] at h0_); (try simp only [List.flatten_append, List.flatten_cons, List.flatten_nil, List.append_nil, List.cons_append, List.nil_append, List.append_assoc, nOf_app, nOf_cons, nOf_nil, Nat.add_zero, Nat.zero_add, List.map_append, List.map_cons, List.map_nil, cel, sv, HT.blks]); omega) ?_
        refine vs (S1.mapUpdate (ek := sv) (k := x) rfl rfl rfl) <| ?_
        refine vE <| WP.region <| v0 (S0.move rfl) rfl <| v0 (S0.assign rfl) rfl <| vE <| WP.region <| v0 (S0.ari rfl rfl rfl (wrap_i64 (by omega))) rfl <| v0 (S0.move rfl) rfl <| vE <| ?_  -- roundend
        have hgm : getM K.ml x = none := by rw [HF.get_ml, hK]; rfl
        have hput : putM K.ml ck x (.pointer (some ⟨b2, 0, none⟩)) = (K.push x ck (.nd b2 mk2 ma2 0 0 [] .nil)).ml := by rw [HF.push_ml, putM, hgm]; rfl
        have hclk : clkM K.ml ck x = ck + 1 := by rw [clkM, hgm]; rfl
        obtain ⟨g1, g2, g3⟩ := HT.grow (b2 := b2) (mk2 := mk2) (ma2 := ma2) (c2 := 0) (c3 := 0) hw1 hsub hK
        have hsd := HT.sub_dep hsub
        have hC3 := hC2 (.nd b mk ma (ck + 1) ca E (K.push x ck (.nd b2 mk2 ma2 0 0 [] .nil))) rfl
        simp only [HT.dep, List.length_take, Nat.min_eq_left hi] at hsd
        have hpd : (HT.put (A.take i) t1 (.nd b mk ma (ck + 1) ca E (K.push x ck (.nd b2 mk2 ma2 0 0 [] .nil)))).dep ≤ 8 := HT.dep_put hsub hd1 (by
          have := HF.dep_pushK (x := x) (m := ck) (b := b2) (mk := mk2) (ma := ma2) (c1 := 0) (c2 := 0) (K := K) (n := 8 - i) (by omega) (by omega)
          simp only [HT.dep, List.length_take, Nat.min_eq_left hi]; omega)
        exact ⟨(i + 1, HT.put (A.take i) t1 (.nd b mk ma (ck + 1) ca E (K.push x ck (.nd b2 mk2 ma2 0 0 [] .nil))), .nd b2 mk2 ma2 0 0 [] .nil), (by first | exact ⟨hlt, g1, (HT.put_b (u := .nd b mk ma (ck + 1) ca E (K.push x ck (.nd b2 mk2 ma2 0 0 [] .nil))) hsub rfl).trans hb1, fun p i => by rw [g2, hc1], hpd, by rw [take_one hx]; exact g3⟩ | (dsimp only; exact ⟨hlt, g1, (HT.put_b (u := .nd b mk ma (ck + 1) ca E (K.push x ck (.nd b2 mk2 ma2 0 0 [] .nil))) hsub rfl).trans hb1, fun p i => by rw [g2, hc1], hpd, by rw [take_one hx]; exact g3⟩)), (show A.length - (i + 1) < A.length - i by omega), ⟨⟨rfl, rfl, rfl, rfl, rfl, rfl, rfl, trivial⟩, rfl, rfl⟩, ⟨[], (pm fun a_ => by have h0_ := pm_of (hC3) a_; (try simp only [List.flatten_append, List.flatten_cons, List.flatten_nil, List.append_nil, List.cons_append, List.nil_append, List.append_assoc, nOf_app, nOf_cons, nOf_nil, Nat.add_zero, Nat.zero_add, List.map_append, List.map_cons, List.map_nil, cel, sv, hput, hclk, HT.blks, HF.blks, HF.push_blks] at h0_); (try simp only [List.flatten_append, List.flatten_cons, List.flatten_nil, List.append_nil, List.cons_append, List.nil_append, List.append_assoc, nOf_app, nOf_cons, nOf_nil, Nat.add_zero, Nat.zero_add, List.map_append, List.map_cons, List.map_nil, cel, sv, hput, hclk, HT.blks, HF.blks, HF.push_blks]); omega)⟩⟩
      | some u =>
        skip
        dsimp only
        refine v0 (S0.assign rfl) rfl <| vE <| WP.seq <| WP.seq <| WP.region <| v0 (S0.move rfl) rfl <| v0 (S0.nilP rfl rfl rfl rfl) rfl <| v0 (S0.move rfl) rfl <| ?_  -- guard t30 (wants True) at t31 := move t2 [if #2=True]
        refine csFh (t := 30) rfl (rfl) ?_
        refine gF rfl rfl <| gF rfl rfl <| v0 (S0.pickF rfl rfl) rfl <| vE <| WP.condF rfl <| WP.skip <| WP.seq <| WP.seq <| WP.region <| v0 (S0.move rfl) rfl <| v0 (S0.nilP rfl rfl rfl rfl) rfl <| vE <| ?_  -- cond
        refine WP.condFh rfl (rfl) ?_
        refine WP.skip <| WP.region <| v0 (S0.move rfl) rfl <| v0 (S0.assign rfl) rfl <| vE <| WP.region <| v0 (S0.ari rfl rfl rfl (wrap_i64 (by omega))) rfl <| v0 (S0.move rfl) rfl <| vE <| ?_  -- roundend
        exact ⟨(i + 1, t1, u), (by first | exact ⟨hlt, hw1, hb1, hc1, hd1, by rw [take_one hx, hst, HT.sub_one, hK]⟩ | (dsimp only; exact ⟨hlt, hw1, hb1, hc1, hd1, by rw [take_one hx, hst, HT.sub_one, hK]⟩)), (show A.length - (i + 1) < A.length - i by omega), ⟨⟨rfl, rfl, rfl, rfl, rfl, rfl, rfl, trivial⟩, rfl, rfl⟩, ⟨_, (take1 at0 (take1 at0 take0))⟩⟩
  · skip
    have e : i = A.length := by omega
    rw [e, List.take_length] at hsub
    refine WP.exit <| WP.seq <| WP.region <| v0 (S0.move rfl) rfl <| v0 (S0.assign rfl) rfl <| vE <| WP.ret <| ?_  -- ret
    refine Leaves.drop (take1 at0 take0) ?_
    refine r1 rfl rfl ?_
    exact ⟨t1, s, hw1, hb1, hc1, hd1, hsub, rfl, rfl⟩
end Go.Proofs.YtipljeomgdomnaaGreatDoor
/- W8 -/
namespace Go.Proofs.YtipljeomgdomnaaGreatDoor
open Go

instance cellsPtr {t : HT} : CellsL t.ptr [t.ptr] := ⟨rfl⟩
theorem bare_tells (b mk ma : Nat) : Tells (.nd b mk ma 0 0 [] .nil) [] :=
  ⟨⟨WfM.nil, WfM.nil, by simp, trivial⟩, AsksOk.nil, fun f i => by
    have := HT.bare_cnt (t := .nd b mk ma 0 0 [] .nil) rfl (levels f) i
    rw [this]; rfl, fun p i h => absurd (HT.bare_cnt (t := .nd b mk ma 0 0 [] .nil) rfl p i) h⟩
theorem new_spec : FN Tryz.prog 28 [] [] (fun v h => ∃ tb c, v = .pointer (some ⟨tb, 0, none⟩) ∧ IsTr tb [] c ∧ h = [c]) := by
  refine FN.intro 4 [] Tryz.func28 rfl (enters Tryz.func28 (by kernel_rfl) rfl) Tryz.ntmps28 rfl rfl ?_
  refine WP.seq <| WP.region <| v0 (S0.assign rfl) rfl <| vE <| WP.seq <| WP.region <| ?_  -- op t1 := call F46{rivulet/trie.fresh}()
  refine vc (S1.callF rfl (fresh_spec) take0) rfl ?_
  rintro _ _ ⟨b, mk, ma, rfl, rfl⟩
  refine app ?_
  refine v0 (S0.build rfl (qs := [(0, _)]) rfl) rfl <| vn (S1.box rfl rfl) rfl fun b3 => v0 (S0.assign rfl) rfl <| vE <| WP.ret <| ?_  -- ret
  refine Leaves.drop (h' := [(b3, cel [.pointer (some ⟨b, 0, none⟩)] 81) :: (HT.nd b mk ma 0 0 [] .nil).blks 101]) (k := []) (by simp) ?_
  refine r1 rfl rfl ?_
  exact ⟨b3, _, rfl, ⟨_, bare_tells b mk ma, by simp [HT.dep, HF.dep], rfl⟩, rfl⟩
-- left out: copy_spec ((*rivulet/trie.Trie).Copy)








theorem has_spec {tb : Nat} {L : Asks} {c : List Blk} (h : IsTr tb L c) {f : Str} (hf : f.length ≤ 1000) (i : Int) : FN Tryz.prog 67 [.pointer (some ⟨tb, 0, none⟩), sv f, .int .i64 i] [c] (is (.int .i64 (hasK L f i)) [c]) := by
  obtain ⟨t, ht, hd, rfl⟩ := h
  refine FN.intro 19 [(0, .pointer (some ⟨tb, 0, none⟩)), (1, sv f), (2, .int .i64 i)] Tryz.func67 rfl (enters Tryz.func67 (by kernel_rfl) rfl) Tryz.ntmps67 rfl rfl ?_
  refine WP.seq <| WP.region <| v0 (S0.assign rfl) rfl <| vE <| WP.seq <| WP.seq <| WP.region <| v0 (S0.move rfl) rfl <| v0 (S0.move rfl) rfl <| ?_  -- op t10 := call F71{(*rivulet/trie.Trie).find}(t8, t9, false)
  refine vcd (S1.callF rfl (find0_spec ht.wf hf) (take1 at0 take0)) rfl ?_
  skip
  cases hs : HT.sub (levels f) t with
  | none =>
    dsimp only
    skip
    refine v0 (S0.assign rfl) rfl <| vE <| WP.seq <| WP.region <| v0 (S0.move rfl) rfl <| v0 (S0.nilP rfl rfl rfl rfl) rfl <| vE <| ?_  -- cond
    refine WP.condFh rfl (rfl) ?_
    refine WP.skip <| WP.seq <| WP.region <| v0 (S0.assign rfl) rfl <| vE <| WP.ret <| ?_  -- ret
    refine r1 rfl rfl ⟨?_, rfl⟩
    rw [ht.none hs]
  | some s =>
    skip
    cases s with
    | nd b mk ma ck ca E K =>
      obtain ⟨i1, i2, i3, -⟩ := HT.node_mem (ct := (tb, cel [t.ptr] 81) :: t.blks 101) (fun z hz => List.mem_cons_of_mem _ (HT.sub_mem _ hs z hz))
      simp only [ptr_nd]
      refine v0 (S0.assign rfl) rfl <| vE <| WP.seq <| WP.region <| v0 (S0.move rfl) rfl <| v0 (S0.nilP rfl rfl rfl rfl) rfl <| vE <| ?_  -- cond
      refine WP.condTh rfl (rfl) ?_
      refine WP.seq <| WP.region <| v0 (S0.move rfl) rfl <| v0 (S0.nilCheck rfl) rfl <| v0 (S0.fieldAddr rfl) rfl <| v0 (S0.load rfl rfl) rfl <| v0 (S0.move rfl) rfl <| ?_  -- op t18 := lookup 87 t16 t17 false
      refine v0 (S0.lookupV (ek := Value.int .i64) (k := i) rfl rfl (aml_read E i)) rfl <| ?_
      refine v0 (S0.assign rfl) rfl <| vE <| WP.ret <| ?_  -- ret
      refine r1 rfl rfl ⟨?_, rfl⟩
      rw [ht.node hs]
/-- the blocks of the trie but the map of those who ask at one node -/
abbrev restC (tb : Nat) (t : HT) (b mk ma ck : Nat) (K : HF) (C : List Blk) : List Blk := (b, .cells ⟨[.map (some mk), .map (some ma)]⟩ 101 (0, 0)) :: (tb, cel [t.ptr] 81) :: (mk, mapO sv K.ml ck) :: (K.blks 101 ++ C)
theorem put_back {tb : Nat} {t : HT} {p : List Str} {b mk ma ck ca ca' : Nat} {E E' : AL} {K : HF} {C : List Blk} (hs : HT.sub p t = some (.nd b mk ma ck ca E K))
    (hC : ((HT.put p t (.nd b mk ma ck ca' E' K)).blks 101).Perm ((HT.nd b mk ma ck ca' E' K).blks 101 ++ C)) :
    ([[(ma, mapO (Value.int .i64) (aml E') ca')], restC tb t b mk ma ck K C] : Hp).flatten.Perm (([(tb, cel [(HT.put p t (.nd b mk ma ck ca' E' K)).ptr] 81) :: (HT.put p t (.nd b mk ma ck ca' E' K)).blks 101] : Hp).flatten ++ ([] : Hp).flatten) := by
  have e : (HT.put p t (.nd b mk ma ck ca' E' K)).ptr = t.ptr := by unfold HT.ptr; rw [HT.put_b (u := .nd b mk ma ck ca' E' K) hs rfl]
  rw [e]
  exact (pm fun a_ => by have h0_ := pm_of (hC) a_; (try simp only [List.flatten_append, List.flatten_cons, List.flatten_nil, List.append_nil, List.cons_append, List.nil_append, List.append_assoc, nOf_app, nOf_cons, nOf_nil, Nat.add_zero, Nat.zero_add, List.map_append, List.map_cons, List.map_nil, cel, sv, HT.blks] at h0_); (try simp only [List.flatten_append, List.flatten_cons, List.flatten_nil, List.append_nil, List.cons_append, List.nil_append, List.append_assoc, nOf_app, nOf_cons, nOf_nil, Nat.add_zero, Nat.zero_add, List.map_append, List.map_cons, List.map_nil, cel, sv, HT.blks]); omega)
theorem put_dep {t : HT} {p : List Str} {b mk ma ck ca ca' : Nat} {E E' : AL} {K : HF} (hs : HT.sub p t = some (.nd b mk ma ck ca E K)) {n : Nat} (hd : t.dep ≤ n) : (HT.put p t (.nd b mk ma ck ca' E' K)).dep ≤ n :=
  HT.dep_put hs hd (by have := HT.sub_dep hs; simp only [HT.dep] at this ⊢; omega)
theorem add_tells {t : HT} {L : Asks} (h : Tells t L) {f : Str} {i : Int} (hok : okA f i = true) {b mk ma ck ca : Nat} {E : AL} {K : HF} (hs : HT.sub (levels f) t = some (.nd b mk ma ck ca E K)) :
    Tells (HT.put (levels f) t (.nd b mk ma ck (clkM (aml E) ca i) (putA E ca i (hasK L f i + 1)) K)) (addK L f i) := by
  have hsw := HT.sub_wf hs h.wf
  simp only [HT.wf] at hsw
  have hnn := has_nonneg h.ok f i
  simp only [okA, Bool.and_eq_true, decide_eq_true_eq] at hok
  refine h.upd hs (by rw [aml_put]; exact hsw.2.1.put _ _) (putA_pos hsw.2.2.1 (by omega)) (h.ok.add hok.1 hok.2) (fun j => ?_) (fun g j hg => ?_)
  · rw [getA_put, has_add h.ok, h.node hs]
    by_cases e : j = i <;> simp [e]
  · rw [has_add h.ok, if_neg (fun e => hg e.1)]
theorem add_spec {tb : Nat} {L : Asks} {c : List Blk} {m : Nat} (h : IsTr tb L c) (hb : AskB L m) (hm : m ≤ 1000000) {f : Str} (hf : f.length ≤ 1000) (i : Int) :
    FN Tryz.prog 68 [.pointer (some ⟨tb, 0, none⟩), sv f, .int .i64 i] [c] (fun v h => ∃ c', v = .tuple ⟨[.int .i64 (addV L f i), .int .i64 (addE f i)]⟩ ∧ IsTr tb (addR L f i) c' ∧ h = [c']) := by
  have hh := h
  obtain ⟨t, ht, hd, rfl⟩ := hh
  have bad : okA f i = false → ∃ c', Value.tuple ⟨[.int .i64 0, .int .i64 1]⟩ = .tuple ⟨[.int .i64 (addV L f i), .int .i64 (addE f i)]⟩ ∧ IsTr tb (addR L f i) c' ∧ [(tb, cel [t.ptr] 81) :: t.blks 101] = [c'] := fun e => ⟨_, by simp [addV, addE, e], by simpa [addR, e] using h, rfl⟩
  refine FN.intro 32 [(0, .pointer (some ⟨tb, 0, none⟩)), (1, sv f), (2, .int .i64 i)] Tryz.func68 rfl (enters Tryz.func68 (by kernel_rfl) rfl) Tryz.ntmps68 rfl rfl ?_
  refine WP.seq <| WP.region <| v0 (S0.assign rfl) rfl <| v0 (S0.assign rfl) rfl <| vE <| WP.seq <| WP.seq <| WP.region <| v0 (S0.move rfl) rfl <| ?_  -- op t10 := call F75{rivulet/topic.Filter}(t9)
  refine vcd (S1.callF rfl (filter_spec (show f.length ≤ 1000000 by omega)) take0) rfl ?_
  refine v0 (S0.not rfl) rfl <| v0 (S0.move rfl) rfl <| ?_  -- guard t12 (wants False) at t13 := move t2 [if #3=False]
  skip
  by_cases hF : filtS f = true
  · skip
    refine csFh (t := 12) rfl ((by simp [hF])) ?_
    refine gT rfl <| v0 (S0.move rfl) rfl <| gT rfl <| v0 (S0.cmp rfl rfl rfl) rfl <| v0 (S0.pickF rfl rfl) rfl <| vE <| ?_  -- cond
    first | refine WP.condP rfl (fun hi => ?_) (fun hi => ?_) | refine WP.condN rfl (fun hi => ?_) (fun hi => ?_) | refine WP.cond rfl (fun hi => ?_) (fun hi => ?_)
    · skip
      refine WP.seq <| WP.region <| v0 (S0.assign rfl) rfl <| v0 (S0.assign rfl) rfl <| vE <| WP.ret <| ?_  -- ret
      refine r2 rfl rfl rfl ?_
      exact bad (by simp [okA]; omega)
    · skip
      have hok : okA f i = true := by simp [okA, hF]; omega
      have hhas := hb.has f i
      have hnn := has_nonneg ht.ok f i
      refine WP.skip <| WP.seq <| WP.region <| v0 (S0.move rfl) rfl <| v0 (S0.move rfl) rfl <| ?_  -- op t18 := call F71{(*rivulet/trie.Trie).find}(t16, t17, true)
      refine vc (S1.callF rfl (find1_spec ht.wf hd hf (filtS_L hF).1) (take1 at0 take0)) rfl ?_
      rintro _ _ ⟨t', s, hw', hb', hc', hd', hs, rfl, rfl⟩
      refine app ?_
      have hpt : t.ptr = t'.ptr := by unfold HT.ptr; rw [hb']
      rw [hpt]
      have ht' := ht.same hw' hc'
      cases s with
      | nd b mk ma ck ca E K =>
        obtain ⟨i1, i2, i3, -⟩ := HT.node_mem (ct := (tb, cel [t'.ptr] 81) :: t'.blks 101) (fun z hz => List.mem_cons_of_mem _ (HT.sub_mem _ hs z hz))
        simp only [ptr_nd]
        have hE := ht'.node hs
        obtain ⟨C, hC1, hC2⟩ := HT.split 101 hs
        refine v0 (S0.assign rfl) rfl <| vE <| WP.seq <| WP.region <| v0 (S0.move rfl) rfl <| v0 (S0.nilCheck rfl) rfl <| v0 (S0.fieldAddr rfl) rfl <| v0 (S0.load rfl rfl) rfl <| v0 (S0.move rfl) rfl <| ?_  -- op t24 := lookup 87 t22 t23 false
        refine v0 (S0.lookupV (ek := Value.int .i64) (k := i) rfl rfl (aml_read E i)) rfl <| ?_
        rw [hE i]
        refine v0 (S0.ari rfl rfl rfl (wrap_i64 (by omega))) rfl <| ?_  -- op mapUpdate 87 t22 t23 t25
        refine WO.perm (h' := [[(ma, mapO (Value.int .i64) (aml E) ca)], (b, .cells ⟨[.map (some mk), .map (some ma)]⟩ 101 (0, 0)) :: (tb, cel [t'.ptr] 81) :: (mk, mapO sv K.ml ck) :: (K.blks 101 ++ C)]) (k := []) (pm fun a_ => by have h0_ := pm_of (hC1) a_; (try simp only [List.flatten_append, List.flatten_cons, List.flatten_nil, List.append_nil, List.cons_append, List.nil_append, List.append_assoc, nOf_app, nOf_cons, nOf_nil, Nat.add_zero, Nat.zero_add, List.map_append, List.map_cons, List.map_nil, cel, sv, HT.blks] at h0_); (try simp only [List.flatten_append, List.flatten_cons, List.flatten_nil, List.append_nil, List.cons_append, List.nil_append, List.append_assoc, nOf_app, nOf_cons, nOf_nil, Nat.add_zero, Nat.zero_add, List.map_append, List.map_cons, List.map_nil, cel, sv, HT.blks]); omega) ?_
        refine vs (S1.mapUpdate (ek := Value.int .i64) (k := i) rfl rfl rfl) <| ?_
        rw [← aml_put]
        refine vE <| WP.seq <| WP.region <| v0 (S0.move rfl) rfl <| v0 (S0.nilCheck rfl) rfl <| v0 (S0.fieldAddr rfl) rfl <| v0 (S0.load rfl rfl) rfl <| v0 (S0.move rfl) rfl <| ?_  -- op t31 := lookup 87 t29 t30 false
        refine v0 (S0.lookupV (ek := Value.int .i64) (k := i) rfl rfl (aml_read _ i)) rfl <| ?_
        rw [getA_put, if_pos rfl]
        refine v0 (S0.assign rfl) rfl <| v0 (S0.assign rfl) rfl <| vE <| WP.ret <| ?_  -- ret
        refine Leaves.drop (put_back hs (hC2 (.nd b mk ma ck (clkM (aml E) ca i) (putA E ca i (hasK L f i + 1)) K) rfl)) ?_
        refine r2 rfl rfl rfl ?_
        exact ⟨_, by simp [addV, addE, hok], ⟨_, by rw [addR, if_pos hok]; exact add_tells ht' hok hs, put_dep hs hd', rfl⟩, rfl⟩
  · skip
    refine csTh (t := 12) rfl ((by simp [hF])) ?_
    refine gF rfl rfl <| gF rfl rfl <| v0 (S0.pickT rfl rfl) rfl <| vE <| WP.condT rfl <| WP.seq <| WP.region <| v0 (S0.assign rfl) rfl <| v0 (S0.assign rfl) rfl <| vE <| WP.ret <| ?_  -- ret
    refine r2 rfl rfl rfl ?_
    exact bad (by simp [okA, hF])
end Go.Proofs.YtipljeomgdomnaaGreatDoor
