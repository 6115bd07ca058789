import Derived.Test.YtjpjebfodhbdfaaGreatDoorMg2
import Derived.Test.YtjpjebfodhbdfaaGreatDoorMg1
import Derived.Test.YtjpjebfodhbdfaaGreatDoorShelf
set_option linter.unusedSimpArgs false
set_option linter.unusedVariables false
set_option linter.unnecessarySimpa false
namespace Go.Proofs.YtjpjebfodhbdfaaGreatDoor
open Go
theorem rstep_spec {n : Nat} (hn : n < 4294967296) (c : UInt8) : FN Tryz.prog 171 [.int .u32 (n : Int), .int .u8 (c.toNat : Int)] [] (is (.int .u32 (stepC n c : Int)) []) := by
  have hc := c.toNat_lt
  have hx : n ^^^ c.toNat < 4294967296 := xor_lt (n := 32) hn (by omega)
  refine FN.intro 23 [(0, .int .u32 (n : Int)), (1, .int .u8 (c.toNat : Int))] Tryz.func171 rfl (enters Tryz.func171 (by kernel_rfl) rfl) Tryz.ntmps171 rfl rfl ?_
  refine WP.seq <| WP.region <| v0 (S0.assign rfl) rfl <| vE <| WP.seq <| WP.region <| v0 (S0.move rfl) rfl <| v0 (S0.move rfl) rfl <| v0 (S0.convI rfl (wrap_u32 (by omega))) rfl <| ?_
  refine v0 (S0.bits rfl rfl (xor_u32 hn (by omega))) rfl <| ?_
  refine v0 (S0.assign rfl) rfl <| vE <| WP.seq <| WP.seq <| WP.region <| v0 (S0.assign rfl) rfl <| vE <| WP.block <| ?_
  refine WP.loop (fun st : Nat × Nat => st.1 ≤ 8 ∧ st.2 < 4294967296 ∧ stepC n c = shN (8 - st.1) st.2) (fun st : Nat × Nat => [(0, .int .u32 (st.2 : Int)), (5, .int .i64 (st.1 : Int))]) (fun st : Nat × Nat => []) (fun st : Nat × Nat => 8 - st.1) ((0, n ^^^ c.toNat)) (⟨Nat.zero_le _, hx, rfl⟩) ⟨rfl, rfl, trivial⟩ ⟨_, take0⟩ (fun st hinv => ?_)
  obtain ⟨k, m⟩ := st
  obtain ⟨hk, hm, hs⟩ := hinv
  dsimp only at hk hm hs ⊢
  refine WP.seq <| WP.seq <| WP.region <| v0 (S0.move rfl) rfl <| v0 (S0.cmp rfl rfl rfl) rfl <| vE <| ?_
  first | refine WP.condP rfl (fun h1 => ?_) (fun h1 => ?_) | refine WP.condN rfl (fun h1 => ?_) (fun h1 => ?_) | refine WP.cond rfl (fun h1 => ?_) (fun h1 => ?_)
  · have hlt : k < 8 := by omega
    rw [show 8 - k = (8 - (k + 1)) + 1 by omega, shN] at hs
    have hm2 := sh1_lt hm
    refine WP.skip <| WP.seq <| WP.block <| WP.seq <| WP.region <| v0 (S0.move rfl) rfl <| ?_
    refine v0 (S0.rem rfl rfl (by decide)) rfl <| ?_
    rw [show ((m : Int).tmod 2) = ((m % 2 : Nat) : Int) from rem_u32 m 2]
    refine v0 (S0.cmp rfl rfl rfl) rfl <| vE <| ?_
    first | refine WP.condP rfl (fun h2 => ?_) (fun h2 => ?_) | refine WP.condN rfl (fun h2 => ?_) (fun h2 => ?_) | refine WP.cond rfl (fun h2 => ?_) (fun h2 => ?_)
    · have e : sh1 m = m / 2 ^^^ 3988292384 := by unfold sh1; rw [if_pos (by omega)]
      refine WP.region <| v0 (S0.move rfl) rfl <| ?_
      refine v0 (S0.quo rfl rfl (by decide) (quo_u32 (d := 2) hm)) rfl <| ?_
      refine v0 (S0.bits rfl rfl (xor_u32 (a := m / 2) (b := 3988292384) (by omega) (by decide))) rfl <| ?_
      refine v0 (S0.assign rfl) rfl <| vE <| WP.region <| v0 (S0.move rfl) rfl <| v0 (S0.ari rfl rfl rfl (wrap_i64 (by omega))) rfl <| v0 (S0.assign rfl) rfl <| vE <| ?_
      rw [← e]
      exact ⟨(k + 1, sh1 m), (by first | exact ⟨hlt, hm2, hs⟩ | (dsimp only; exact ⟨hlt, hm2, hs⟩)), (show 8 - (k + 1) < 8 - k by omega), ⟨⟨rfl, rfl, trivial⟩, rfl, rfl⟩, ⟨_, take0⟩⟩
    · have e : sh1 m = m / 2 := by unfold sh1; rw [if_neg (by omega)]
      refine WP.region <| v0 (S0.move rfl) rfl <| ?_
      refine v0 (S0.quo rfl rfl (by decide) (quo_u32 (d := 2) hm)) rfl <| ?_
      refine v0 (S0.assign rfl) rfl <| vE <| WP.region <| v0 (S0.move rfl) rfl <| v0 (S0.ari rfl rfl rfl (wrap_i64 (by omega))) rfl <| v0 (S0.assign rfl) rfl <| vE <| ?_
      rw [← e]
      exact ⟨(k + 1, sh1 m), (by first | exact ⟨hlt, hm2, hs⟩ | (dsimp only; exact ⟨hlt, hm2, hs⟩)), (show 8 - (k + 1) < 8 - k by omega), ⟨⟨rfl, rfl, trivial⟩, rfl, rfl⟩, ⟨_, take0⟩⟩
  · have e : k = 8 := by omega
    subst e
    refine WP.exit <| WP.seq <| WP.region <| v0 (S0.move rfl) rfl <| v0 (S0.assign rfl) rfl <| vE <| WP.ret <| ?_
    refine r1 rfl rfl ⟨?_, rfl⟩
    rw [hs]; rfl
theorem radd_spec {m : Nat} (hm : m < 4294967296) {s : Str} (hs : s.length ≤ 1000000) : FN Tryz.prog 155 [.int .u32 (m : Int), sv s] [] (is (.int .u32 (addC m s : Int)) []) := by
  refine FN.intro 22 [(0, .int .u32 (m : Int)), (1, sv s)] Tryz.func155 rfl (enters Tryz.func155 (by kernel_rfl) rfl) Tryz.ntmps155 rfl rfl ?_
  refine WP.seq <| WP.region <| v0 (S0.assign rfl) rfl <| vE <| WP.seq <| WP.region <| v0 (S0.move rfl) rfl <| ?_
  refine v0 (S0.ari (z' := ((4294967295 - m : Nat) : Int)) rfl rfl rfl (by rw [wrap_u32 (by omega)]; omega)) rfl <| ?_
  refine v0 (S0.assign rfl) rfl <| vE <| WP.seq <| WP.seq <| WP.region <| v0 (S0.assign rfl) rfl <| vE <| WP.block <| ?_
  refine WP.loop (fun st : Nat × Nat => st.1 ≤ s.length ∧ st.2 < 4294967296 ∧ addC m s = 4294967295 - (s.drop st.1).foldl stepC st.2) (fun st : Nat × Nat => [(1, sv s), (5, .int .u32 (st.2 : Int)), (6, .int .i64 (st.1 : Int))]) (fun st : Nat × Nat => []) (fun st : Nat × Nat => s.length - st.1) ((0, 4294967295 - m)) (⟨Nat.zero_le _, by omega, rfl⟩) ⟨rfl, rfl, rfl, trivial⟩ ⟨_, take0⟩ (fun st hinv => ?_)
  obtain ⟨k, n⟩ := st
  obtain ⟨hk, hn, ha⟩ := hinv
  dsimp only at hk hn ha ⊢
  refine WP.seq <| WP.seq <| WP.region <| v0 (S0.move rfl) rfl <| v0 (S0.move rfl) rfl <| v0 (S0.lenSt rfl) rfl <| v0 (S0.cmp rfl rfl rfl) rfl <| vE <| ?_
  first | refine WP.condP rfl (fun h1 => ?_) (fun h1 => ?_) | refine WP.condN rfl (fun h1 => ?_) (fun h1 => ?_) | refine WP.cond rfl (fun h1 => ?_) (fun h1 => ?_)
  · have hlt : k < s.length := by omega
    have hx : s[k]? = some s[k] := by simp [hlt]
    have hd : s.drop k = s[k] :: s.drop (k + 1) := List.drop_eq_getElem_cons hlt
    generalize s[k] = c at hx hd
    rw [hd, List.foldl_cons] at ha
    have hsn := step_lt hn c
    refine WP.skip <| WP.seq <| WP.block <| WP.region <| v0 (S0.move rfl) rfl <| v0 (S0.move rfl) rfl <| v0 (S0.move rfl) rfl <| ?_
    refine v0 (S0.indexSt rfl rfl hx) rfl <| ?_
    refine vcd (S1.callF rfl (rstep_spec hn c) take0) rfl ?_
    refine v0 (S0.assign rfl) rfl <| vE <| WP.region <| v0 (S0.move rfl) rfl <| v0 (S0.ari rfl rfl rfl (wrap_i64 (by omega))) rfl <| v0 (S0.assign rfl) rfl <| vE <| ?_
    exact ⟨(k + 1, stepC n c), (by first | exact ⟨hlt, hsn, ha⟩ | (dsimp only; exact ⟨hlt, hsn, ha⟩)), (show s.length - (k + 1) < s.length - k by omega), ⟨⟨rfl, rfl, rfl, trivial⟩, rfl, rfl⟩, ⟨_, take0⟩⟩
  · have e : k = s.length := by omega
    rw [e, List.drop_length, List.foldl_nil] at ha
    refine WP.exit <| WP.seq <| WP.region <| v0 (S0.move rfl) rfl <| ?_
    refine v0 (S0.ari (z' := ((4294967295 - n : Nat) : Int)) rfl rfl rfl (by rw [wrap_u32 (by omega)]; omega)) rfl <| ?_
    refine v0 (S0.assign rfl) rfl <| vE <| WP.ret <| ?_
    refine r1 rfl rfl ⟨?_, rfl⟩
    rw [ha]
theorem rsum_spec {s : Str} (hs : s.length ≤ 1000000) : FN Tryz.prog 137 [sv s] [] (is (.int .u32 (sumC s : Int)) []) := by
  refine FN.intro 5 [(0, sv s)] Tryz.func137 rfl (enters Tryz.func137 (by kernel_rfl) rfl) Tryz.ntmps137 rfl rfl ?_
  refine WP.seq <| WP.region <| v0 (S0.assign rfl) rfl <| vE <| WP.seq <| WP.region <| v0 (S0.move rfl) rfl <| ?_
  refine vcd (S1.callF rfl (radd_spec (m := 0) (by decide) hs) take0) rfl ?_
  refine v0 (S0.assign rfl) rfl <| vE <| WP.ret <| ?_
  refine r1 rfl rfl ⟨?_, rfl⟩
  rfl
theorem four_spec {n : Nat} (hn : n < 4294967296) : FN Tryz.prog 136 [.int .u32 (n : Int)] [] (is (sv (markC n)) []) := by
  refine FN.intro 19 [(0, .int .u32 (n : Int))] Tryz.func136 rfl (enters Tryz.func136 (by kernel_rfl) rfl) Tryz.ntmps136 rfl rfl ?_
  refine WP.seq <| WP.region <| v0 (S0.assign rfl) rfl <| vE <| WP.seq <| WP.region <| v0 (S0.move rfl) rfl <| ?_
  refine v0 (S0.rem rfl rfl (by decide)) rfl <| ?_
  rw [show ((n : Int).tmod 256) = ((n % 256 : Nat) : Int) from rem_u32 n 256]
  refine v0 (S0.convI (z := ((UInt8.ofNat (n % 256)).toNat : Int)) rfl (wrap_u8n rfl)) rfl <| ?_
  refine v0 (S0.move rfl) rfl <| ?_
  refine v0 (S0.quo rfl rfl (by decide) (quo_u32 (d := 256) hn)) rfl <| ?_
  refine v0 (S0.rem rfl rfl (by decide)) rfl <| ?_
  rw [show (((n / 256 : Nat) : Int).tmod 256) = ((n / 256 % 256 : Nat) : Int) from rem_u32 (n / 256) 256]
  refine v0 (S0.convI (z := ((UInt8.ofNat (n / 256 % 256)).toNat : Int)) rfl (wrap_u8n rfl)) rfl <| ?_
  refine v0 (S0.move rfl) rfl <| ?_
  refine v0 (S0.quo rfl rfl (by decide) (quo_u32 (d := 65536) hn)) rfl <| ?_
  refine v0 (S0.rem rfl rfl (by decide)) rfl <| ?_
  rw [show (((n / 65536 : Nat) : Int).tmod 256) = ((n / 65536 % 256 : Nat) : Int) from rem_u32 (n / 65536) 256]
  refine v0 (S0.convI (z := ((UInt8.ofNat (n / 65536 % 256)).toNat : Int)) rfl (wrap_u8n rfl)) rfl <| ?_
  refine v0 (S0.move rfl) rfl <| ?_
  refine v0 (S0.quo rfl rfl (by decide) (quo_u32 (d := 16777216) hn)) rfl <| ?_
  refine v0 (S0.convI (z := ((UInt8.ofNat (n / 16777216)).toNat : Int)) rfl (wrap_u8n rfl)) rfl <| ?_
  rw [← ofNat_mod (n / 16777216)]
  refine vnv (S1.buildSlice rfl (qs := [(0, _), (1, _), (2, _), (3, _)]) rfl rfl) rfl fun b17 => ?_
  refine v0 (S0.bytesStr (s := markC n) rfl rfl rfl) rfl <| ?_
  refine v0 (S0.assign rfl) rfl <| vE <| WP.ret <| ?_
  refine Leaves.drop take0 ?_
  refine r1 rfl rfl ⟨?_, rfl⟩
  rfl
theorem rseal_spec {s : Str} (hs : s.length ≤ 900000) : FN Tryz.prog 113 [sv s] [] (is (sv (sealB s)) []) := by
  refine FN.intro 9 [(0, sv s)] Tryz.func113 rfl (enters Tryz.func113 (by kernel_rfl) rfl) Tryz.ntmps113 rfl rfl ?_
  refine WP.seq <| WP.region <| v0 (S0.assign rfl) rfl <| vE <| WP.seq <| WP.region <| v0 (S0.move rfl) rfl <| ?_
  refine vcd (S1.callF rfl (rtext_spec (s := s) (by omega)) take0) rfl ?_
  refine v0 (S0.move rfl) rfl <| ?_
  refine vcd (S1.callF rfl (rsum_spec (s := s) (by omega)) take0) rfl ?_
  refine vcd (S1.callF rfl (four_spec (sumC_lt s)) take0) rfl ?_
  have h1 := putV_le s.length
  refine v0 (S0.addS rfl rfl (by rw [markC_len, List.length_append]; omega)) rfl <| ?_
  refine v0 (S0.assign rfl) rfl <| vE <| WP.ret <| ?_
  refine r1 rfl rfl ⟨?_, rfl⟩
  rfl
end Go.Proofs.YtjpjebfodhbdfaaGreatDoor
namespace Go.Proofs.YtjpjebfodhbdfaaGreatDoor
open Go
def Rd {α : Type} (k : Nat) (en : α → List Value) (v : Value) (R : List α) (c : List Blk) : Prop :=
  ∃ a cap, v = .slice a R.length cap ∧ R.length ≤ cap ∧ (R = [] ∨ ∃ b o L U fz, a = some ⟨b, o, none⟩ ∧ (b, Obj.cells ⟨L⟩ U fz) ∈ c ∧ ∀ i x, R[i]? = some x → (L.drop (o + i * k)).take k = en x)
theorem IsSl.rd {α : Type} {en : α → List Value} {E : TypeId} {k : Nat} (hk : ∀ x, (en x).length = k + 1) {R : List α} {v : Value} {row : List Blk} (h : IsSl E (k + 1) v (R.flatMap en) row) : Rd (k + 1) en v R row := by
  obtain ⟨a, cap, rfl, hc, hr⟩ := IsSl.elems hk h
  refine ⟨a, cap, rfl, hc, ?_⟩
  rcases hr with ⟨h0, -⟩ | ⟨b, sp, rfl, rfl, -⟩
  · exact .inl h0
  · refine .inr ⟨b, 0, _, _, _, rfl, List.mem_cons_self, fun i x hx => ?_⟩
    rw [Nat.zero_add]
    exact flat_take (k := k + 1) hk sp R i x hx
theorem rd_get {α : Type} {k : Nat} {en : α → List Value} {L : List Value} {m : Nat} {x : α} (h : (L.drop m).take k = en x) {j : Nat} (hj : j < k) : L[m + j]? = (en x)[j]? := by
  rw [← h, List.getElem?_take_of_lt hj, List.getElem?_drop]
section
variable {P : Program} {f : Fr} {d : Option Tmp} {ty : TypeId} {p : String} {af : Array Edge} {gd : Option (Nat × Bool)} {SL : List Blk} {T E : TypeId} {x : Operand} {k by_ : Nat} {zv : Value}
theorem S0.sliceG {a : Option Addr} {n c : Nat} {lo hi : Option Operand} {i j : Nat} [kk : Und P T (.slice E)] [ki : Inf P E k by_ zv] (hx : ev f x = some (.slice a n c))
    (hlo : match lo with | none => i = 0 | some y => ev f y = some (.int .i64 i)) (hhi : match hi with | none => j = n | some y => ev f y = some (.int .i64 j)) (hij : i ≤ j ∧ j ≤ c) :
    S0 P f SL ⟨d, .slice T x lo hi none, ty, p, af, gd⟩ (.slice (if c = i then a else a.map (·.add (i * k))) (j - i) (c - i)) :=
  S0.pure (by intro c; simp) (by intro c; simp) fun ρ w k' => by
    obtain ⟨h1, h2⟩ := hij
    have e1 : ∀ (bd : BoundsCode) (m : Nat), j ≤ m → (Instr.sliceBound (.int .i64 j) m bd).run P w = .ok j w := fun bd m hm => by
      simp only [Instr.sliceBound, asIntOf, Sem.run_bind, Sem.run_pure, Result.andThen_ok]
      rw [if_pos ⟨by omega, by omega⟩]; simp
    have e2 : ∀ (bd : BoundsCode) (m : Nat), i ≤ m → (Instr.sliceBound (.int .i64 i) m bd).run P w = .ok i w := fun bd m hm => by
      simp only [Instr.sliceBound, asIntOf, Sem.run_bind, Sem.run_pure, Result.andThen_ok]
      rw [if_pos ⟨by omega, by omega⟩]; simp
    have eb : (Instr.sliceBounds true n c (lo.map ρ) (hi.map ρ) none).run P w = .ok (i, j, c) w := by
      cases lo with
      | none => cases hi with
        | none => simp only at hlo hhi; subst hlo hhi; simp [Instr.sliceBounds]
        | some yh => simp only at hlo hhi; subst hlo; simp [Instr.sliceBounds, k' _ _ hhi, e1 _ c h2]
      | some yl => cases hi with
        | none => simp only at hlo hhi; subst hhi; simp [Instr.sliceBounds, k' _ _ hlo, e2 _ j h1]
        | some yh => simp only at hlo hhi; simp [Instr.sliceBounds, k' _ _ hlo, k' _ _ hhi, e1 _ c h2, e2 _ j h1]
    simp only [execOp, k' _ _ hx, Instr.sliceAt, Sem.run_bind, run_underlying kk.eq, Result.andThen_ok, Instr.slice, Option.map_none, eb, run_sizeOf (k := ki), Sem.run_pure]
end
theorem Rd.cutG {α : Type} {k : Nat} {en : α → List Value} {a : Option Addr} {n cap : Nat} {R : List α} {c : List Blk} (h : Rd k en (.slice a n cap) R c) (i j : Nat) (hij : i ≤ j) (hj : j ≤ R.length) :
    n = R.length ∧ n ≤ cap ∧ Rd k en (.slice (if cap = i then a else a.map (·.add (i * k))) (j - i) (cap - i)) ((R.drop i).take (j - i)) c := by
  obtain ⟨a', cap', e, hc, h⟩ := h
  simp only [Value.slice.injEq] at e
  obtain ⟨rfl, rfl, rfl⟩ := e
  have hlen : ((R.drop i).take (j - i)).length = j - i := by simp; omega
  refine ⟨rfl, hc, _, _, by rw [hlen], by rw [hlen]; omega, ?_⟩
  by_cases h0 : j = i
  · left; subst h0; simp
  right
  rcases h with h | ⟨b', o', L, U, fz, rfl, e2, e3⟩
  · subst h; simp at hj; omega
  · rw [if_neg (by omega)]
    refine ⟨b', o' + i * k, L, U, fz, ?_, e2, fun m x hx => ?_⟩
    · simp only [Option.map_some, Addr.add]
      split <;> simp_all
    · have hm : m < j - i := by have := (List.getElem?_eq_some_iff.1 hx).1; omega
      rw [List.getElem?_take_of_lt hm, List.getElem?_drop] at hx
      have := e3 (i + m) x hx
      rw [Nat.add_mul, ← Nat.add_assoc] at this
      exact this
abbrev RdS (v : Value) (R : List Str) (c : List Blk) : Prop := Rd 1 (fun x : Str => [sv x]) v R c
theorem IsSl.rdS {E : TypeId} {R : List Str} {v : Value} {row : List Blk} (h : IsSl E 1 v (strs R) row) : RdS v R row := by
  rw [strs_flat] at h
  exact IsSl.rd (k := 0) (fun _ => rfl) h
theorem rdS_get {L : List Value} {o i : Nat} {x : Str} (h : (L.drop (o + i * 1)).take 1 = [sv x]) : L[o + i]? = some (sv x) := by
  have := rd_get (en := fun x : Str => [sv x]) h (j := 0) (by omega)
  simpa using this
end Go.Proofs.YtjpjebfodhbdfaaGreatDoor
namespace Go.Proofs.YtjpjebfodhbdfaaGreatDoor
open Go
def unl : List Str → Str
  | [] => []
  | [x] => x
  | x :: y :: l => x ++ 47 :: unl (y :: l)
theorem unl_levels : ∀ (s : Str), unl (levels s) = s
  | [] => rfl
  | c :: s => by
    have ih := unl_levels s
    simp only [levels]
    split
    · rename_i h
      subst h
      cases h2 : levels s with
      | nil => exact absurd h2 (levels_ne s)
      | cons x l => rw [h2] at ih; simp [unl, ih]
    · cases h2 : levels s with
      | nil => exact absurd h2 (levels_ne s)
      | cons x l =>
        rw [h2] at ih
        cases l with
        | nil => simp [unl] at ih ⊢; exact ih
        | cons y l => simp [unl] at ih ⊢; exact ih
end Go.Proofs.YtjpjebfodhbdfaaGreatDoor
namespace Go.Proofs.YtjpjebfodhbdfaaGreatDoor
open Go
end Go.Proofs.YtjpjebfodhbdfaaGreatDoor
namespace Go.Proofs.YtjpjebfodhbdfaaGreatDoor
open Go

end Go.Proofs.YtjpjebfodhbdfaaGreatDoor
namespace Go.Proofs.YtjpjebfodhbdfaaGreatDoor
open Go
section
variable {P : Program} {r : Option Nat} {f : Fr} {h : Hp} {d : Option Tmp} {ty : TypeId} {p : String} {af : Array Edge} {gd : Option (Nat × Bool)} {T E T2 E2 : TypeId} {x y : Operand} {by_ : Nat} {zv v u : Value}
theorem rdS_all {L : List Value} {o : Nat} : ∀ {R : List Str}, (∀ i x, R[i]? = some x → (L.drop (o + i * 1)).take 1 = [sv x]) → R ≠ [] → (L.drop o).take (R.length * 1) = strs R ∧ o + R.length * 1 ≤ L.length := by
  intro R h hne
  have hlen : o + R.length ≤ L.length := by
    have hlt : R.length - 1 < R.length := by have := List.length_pos_iff.2 hne; omega
    have h1 := rdS_get (h (R.length - 1) R[R.length - 1] (by simp [hlt]))
    have := (List.getElem?_eq_some_iff.1 h1).1
    omega
  refine ⟨?_, by omega⟩
  apply List.ext_getElem?
  intro i
  by_cases hi : i < R.length
  · have h1 := rdS_get (h i R[i] (by simp [hi]))
    rw [List.getElem?_take_of_lt (by omega), List.getElem?_drop, h1]
    simp [strs, hi]
  · rw [List.getElem?_eq_none (by simp; omega), List.getElem?_eq_none (by simp [strs]; omega)]
theorem S1.appendRd {R : List Str} {l : List Value} {c0 c : List Blk} {hr : Hp} [kk : Und P T (.slice E)] [k2 : Und P T2 (.slice E2)] [ki : Inf P E 1 by_ zv]
    (hx : ev f x = some v) (hs : IsSl E 1 v l c) (hy : ev f y = some u) (hu : RdS u R c0) (hin : ∀ q ∈ c0, q ∈ h.flatten)
    (hp : h.flatten.Perm (c ++ hr.flatten)) (hz : zv.cells.size = 1) (hroom : l.length + R.length ≤ 1000000000) (hb : by_ ≤ 100000 := by decide) :
    S1 P r ⟨d, .call ⟨.builtin .append, #[x, y], #[T, T2]⟩, ty, p, af, gd⟩ f h (fun v' h' => ∃ c', IsSl E 1 v' (l ++ strs R) c' ∧ h' = c' :: hr) := by
  have hsl : (strs R).length = R.length := by simp [strs]
  have hrm : (l.length + (strs R).length) * by_ ≤ 140737488355328 ∧ l.length + (strs R).length < 4611686018427387904 := ⟨by
    rw [hsl]
    have := Nat.mul_le_mul hroom hb
    omega, by omega⟩
  obtain ⟨a, cap, rfl, hcap, hu⟩ := hu
  by_cases hR : R = []
  · subst hR
    simp only [strs, List.map_nil, List.append_nil]
    refine S1.ofRun (by intro c; simp) fun E' R' ρ w k' st => ?_
    have hexec : execOp ρ ⟨d, .call ⟨.builtin .append, #[x, y], #[T, T2]⟩, ty, p, af, gd⟩ = (do pure (.value (← Builtin.append_ #[T, T2] ty #[v, .slice a 0 cap]))) := by
      simp only [execOp, resolve, invoke, builtin]
      simp [k' _ _ hx, k' _ _ hy]
    have hf : (Builtin.firstCells 1 0 (.slice a 0 cap)).run P w = .ok ⟨[]⟩ w := by
      cases a <;> simp [Builtin.firstCells, loadCells, loadCellsFrom]
    refine ⟨v, _, w, ?_, ⟨c, hs, rfl⟩, by simpa using st.perm (hp.append_right R')⟩
    rw [hexec]
    obtain ⟨ab, n, cp, rfl, hle⟩ : ∃ ab n cp, v = .slice ab n cp ∧ n ≤ cp := by
      cases hs with
      | nil => exact ⟨_, _, _, rfl, Nat.le_refl _⟩
      | row _ _ h3 => exact ⟨_, _, _, rfl, h3⟩
    have := run_append_in (P := P) (ty := ty) (T := T) (T2 := T2) (E := E) (E2 := E2) (k := 1) (by_ := by_) (zv := zv) (w := w) (base := ab) (n := n) (c := cp) (m := 0) (ws := []) ⟨a, cap, rfl⟩ hf (by omega) (w' := w) (by cases ab <;> rfl)
    simp [this]
  · rcases hu with e | ⟨b, o, L, U, fz, rfl, hm, hel⟩
    · exact absurd e hR
    obtain ⟨h1, h2⟩ := rdS_all hel hR
    have h3 := S1.append (P := P) (r := r) (d := d) (ty := ty) (p := p) (af := af) (gd := gd) (T := T) (T2 := T2) (E2 := E2) (kk := kk) (k2 := k2) (ki := ki) (k := 0) hx hs hy (ws := strs R) (m := R.length) (.inr ⟨b, o, cap, L, U, fz, rfl, hin _ hm, h2, h1⟩) hp (strs_cv R) hz hrm
    exact ⟨fun E' R a w next Q hxx st kont => h3.run E' R a w next Q hxx st fun v h' w' hpost st' => by
      obtain ⟨c', h2, -, h3⟩ := hpost
      exact kont v h' w' ⟨c', h2, h3⟩ st'⟩
end
end Go.Proofs.YtjpjebfodhbdfaaGreatDoor
namespace Go.Proofs.YtjpjebfodhbdfaaGreatDoor
open Go
theorem clone_spec {v : Value} {l : List Str} {row : List Blk} (hs : IsSl 9 1 v (strs l) row) (hl : l.length ≤ 1000000) : FN Tryz.prog 86 [v] [row] (fun u h => ∃ row2, IsSl 9 1 u (strs l) row2 ∧ h = [row2, row]) := by
  obtain ⟨a, cap, rfl, hcap, hrow⟩ := hs.strsE
  rcases hrow with ⟨rfl, rfl, rfl, rfl⟩ | ⟨b, sp, rfl, rfl, hsp⟩
  · refine FN.intro 8 [(0, .slice none ([] : List Str).length 0)] Tryz.func86 rfl (enters Tryz.func86 (by kernel_rfl) rfl) Tryz.ntmps86 rfl rfl ?_
    refine WP.perm (h' := [[], []]) (k := []) (by simp) ?_
    refine WP.seq <| WP.region <| v0 (S0.assign rfl) rfl <| vE <| WP.seq <| WP.seq <| WP.region <| v0 (S0.move rfl) rfl <| v0 (S0.nilSl rfl rfl rfl) rfl <| vE <| ?_
    refine WP.condTh rfl (rfl) ?_
    refine WP.seq <| WP.region <| v0 (S0.assign rfl) rfl <| vE <| WP.ret <| ?_
    refine r1 rfl rfl ?_
    exact ⟨[], IsSl.nil, rfl⟩
  · refine FN.intro 8 [(0, .slice (some ⟨b, 0, none⟩) l.length cap)] Tryz.func86 rfl (enters Tryz.func86 (by kernel_rfl) rfl) Tryz.ntmps86 rfl rfl ?_
    refine WP.seq <| WP.region <| v0 (S0.assign rfl) rfl <| vE <| WP.seq <| WP.seq <| WP.region <| v0 (S0.move rfl) rfl <| v0 (S0.nilSl rfl rfl rfl) rfl <| vE <| ?_
    refine WP.condFh rfl (rfl) ?_
    refine WP.skip <| WP.seq <| WP.region <| vnv (S1.buildSlice rfl (qs := []) rfl rfl) rfl fun b5 => v0 (S0.move rfl) rfl <| ?_
    refine ve (S1.appendRd rfl (IsSl.row (n := 0) (c := 0) (l := []) (sp := []) rfl rfl (Nat.le_refl _)) rfl hs.rdS (fun q hq => List.mem_flatten.2 ⟨_, by simp, hq⟩) at0 rfl (by simp; omega)) rfl ?_
    rintro v2 _ ⟨row2, hsl2, rfl⟩
    rw [List.nil_append] at hsl2
    refine v0 (S0.assign rfl) rfl <| vE <| WP.ret <| ?_
    refine r1 rfl rfl ?_
    exact ⟨row2, hsl2, rfl⟩
end Go.Proofs.YtjpjebfodhbdfaaGreatDoor
namespace Go.Proofs.YtjpjebfodhbdfaaGreatDoor
open Go
theorem q_bu : methB Tryz.prog 148 "rivulet/disk.units" = some (211, false) := by kernel_rfl
theorem m_bu (v : Value) (n : Nat) (w : World) : (Go.method (n + 1) 148 v "rivulet/disk.units").run Tryz.prog w = .ok (211, v) w := run_methodK q_bu Tryz.underlying148 v n w
theorem q_bd : methB Tryz.prog 148 "rivulet/disk.do" = some (210, false) := by kernel_rfl
theorem m_bd (v : Value) (n : Nat) (w : World) : (Go.method (n + 1) 148 v "rivulet/disk.do").run Tryz.prog w = .ok (210, v) w := run_methodK q_bd Tryz.underlying148 v n w
theorem q_iu : methB Tryz.prog 149 "rivulet/disk.units" = some (213, false) := by kernel_rfl
theorem m_iu (v : Value) (n : Nat) (w : World) : (Go.method (n + 1) 149 v "rivulet/disk.units").run Tryz.prog w = .ok (213, v) w := run_methodK q_iu Tryz.underlying149 v n w
theorem q_id : methB Tryz.prog 149 "rivulet/disk.do" = some (212, false) := by kernel_rfl
theorem m_id (v : Value) (n : Nat) (w : World) : (Go.method (n + 1) 149 v "rivulet/disk.do").run Tryz.prog w = .ok (212, v) w := run_methodK q_id Tryz.underlying149 v n w
theorem a_bd (v : Value) (n : Nat) (w : World) : (Go.nilAhead (n + 1) 148 v "rivulet/disk.do").run Tryz.prog w = .ok (some false) w := run_aheadK q_bd Tryz.underlying148 v n w
theorem a_id (v : Value) (n : Nat) (w : World) : (Go.nilAhead (n + 1) 149 v "rivulet/disk.do").run Tryz.prog w = .ok (some false) w := run_aheadK q_id Tryz.underlying149 v n w
def wv (x : Wr) : Value := if x.w = true then .iface 149 (.agg ⟨[.int .i64 (x.f : Int), sv x.s]⟩) else .iface 148 (.agg ⟨[.int .i64 (x.f : Int), sv x.s]⟩)
theorem bu_spec (f : Nat) (s : Str) : FN Tryz.prog 211 [.agg ⟨[.int .i64 (f : Int), sv s]⟩] [] (is (.int .i64 (s.length : Int)) []) := by
  refine FN.intro 6 [(0, .agg ⟨[.int .i64 (f : Int), sv s]⟩)] Tryz.func211 rfl (enters Tryz.func211 (by kernel_rfl) rfl) Tryz.ntmps211 rfl rfl ?_
  refine WP.seq <| WP.region <| vn (S1.box rfl rfl) rfl fun b1 => v0 (S0.assign rfl) rfl <| vE <| WP.seq <| WP.region <| v0 (S0.fieldAddr rfl) rfl <| v0 (S0.load rfl rfl) rfl <| v0 (S0.lenSt rfl) rfl <| v0 (S0.assign rfl) rfl <| vE <| WP.ret <| ?_
  refine Leaves.drop take0 ?_
  refine r1 rfl rfl ⟨?_, rfl⟩
  rfl
theorem iu_spec (f : Nat) (s : Str) : FN Tryz.prog 213 [.agg ⟨[.int .i64 (f : Int), sv s]⟩] [] (is (.int .i64 1) []) := by
  refine FN.intro 3 [(0, .agg ⟨[.int .i64 (f : Int), sv s]⟩)] Tryz.func213 rfl (enters Tryz.func213 (by kernel_rfl) rfl) Tryz.ntmps213 rfl rfl ?_
  refine WP.seq <| WP.region <| vn (S1.box rfl rfl) rfl fun b1 => v0 (S0.assign rfl) rfl <| vE <| WP.seq <| WP.region <| v0 (S0.assign rfl) rfl <| vE <| WP.ret <| ?_
  refine Leaves.drop take0 ?_
  refine r1 rfl rfl ⟨?_, rfl⟩
  rfl
theorem R4.len (r : R4) : r.vals.length = 4 := rfl
theorem R4.get_v (r : R4) {f : Nat} (hf : f < 4) : r.vals[0 + (f : Int).toNat * 1]? = some (sv (r.get f)) := by
  rw [show 0 + (f : Int).toNat * 1 = f by omega]; exact r.vals_get hf
theorem R4.set_v (r : R4) {f : Nat} (hf : f < 4) (s : Str) : r.vals.set (0 + (f : Int).toNat * 1) (sv s) = (r.set f s).vals := by
  rw [show 0 + (f : Int).toNat * 1 = f by omega]; exact r.vals_set hf s
theorem bd_spec {f : Nat} (hf : f < 4) (s : Str) (r : R4) {n : Nat} (hn : n ≤ s.length) (hl : (r.get f).length + s.length ≤ 1000000000000) : FN Tryz.prog 210 [.agg ⟨[.int .i64 (f : Int), sv s]⟩, .agg ⟨r.vals⟩, .int .i64 (n : Int)] [] (is (.agg ⟨(r.set f (r.get f ++ s.take n)).vals⟩) []) := by
  refine FN.quiet ?_
  refine FN.intro 18 [(0, .agg ⟨[.int .i64 (f : Int), sv s]⟩), (1, .agg ⟨r.vals⟩), (2, .int .i64 (n : Int))] Tryz.func210 rfl (enters Tryz.func210 (by kernel_rfl) rfl) Tryz.ntmps210 rfl rfl ?_
  refine WP.seq <| WP.region <| vn (S1.box rfl rfl) rfl fun b3 => vn (S1.box rfl rfl) rfl fun b4 => vn (S1.alloc) rfl fun b6 => vE <| ?_
  refine WP.seq <| WP.drawP [(0, none), (1, none), (2, none), (3, none), (4, none), (5, none), (6, none), (7, none), (8, none), (9, none), (10, none)] mixed (by kernel_rfl) (by kernel_rfl) (by kernel_rfl) (take1 at0 (take1 at0 (take1 at0 take0))) <| w0 rfl rfl rfl (S0.fieldAddr rfl) rfl <| w0 rfl rfl rfl (S0.load rfl rfl) rfl <| ?_
  refine w0 rfl rfl rfl (S0.indexArr rfl rfl ⟨by omega, by omega⟩) rfl <| ?_
  refine w0 rfl rfl rfl (S0.load rfl (r.get_v hf)) rfl <| ?_
  refine w0 rfl rfl rfl (S0.fieldAddr rfl) rfl <| w0 rfl rfl rfl (S0.load rfl rfl) rfl <| w0 rfl rfl rfl (S0.move rfl) rfl <| ?_
  refine w0 rfl rfl rfl (S0.sliceSt (i := 0) (j := n) rfl rfl rfl ⟨Nat.zero_le _, hn⟩) rfl <| ?_
  rw [List.drop_zero, Nat.sub_zero]
  refine w0 rfl rfl rfl (S0.addS rfl rfl (by rw [List.length_take]; omega)) rfl <| ?_
  refine w0 rfl rfl rfl (S0.indexArr rfl rfl ⟨by omega, by omega⟩) rfl <| ?_
  refine wlast rfl (by kernel_rfl) rfl rfl (S1.storeI rfl rfl rfl (l' := (r.set f (r.get f ++ s.take n)).vals) (r.set_v hf _) (by rw [R4.len]; omega)) ?_
  refine WP.seq <| WP.region <| v0 (S0.loadAL rfl) rfl <| vs (S1.storeA rfl rfl rfl) <| vE <| WP.ret <| ?_
  exact rc1 rfl rfl (load_agg (vs := (r.set f (r.get f ++ s.take n)).vals) (n := 4) (U := 69) (fz := (0, 0)) (by simp) rfl) rfl
theorem id_spec {f : Nat} (hf : f < 4) (s : Str) (r : R4) {n : Nat} : FN Tryz.prog 212 [.agg ⟨[.int .i64 (f : Int), sv s]⟩, .agg ⟨r.vals⟩, .int .i64 (n : Int)] [] (is (.agg ⟨(if n = 1 then r.set f s else r).vals⟩) []) := by
  refine FN.quiet ?_
  refine FN.intro 15 [(0, .agg ⟨[.int .i64 (f : Int), sv s]⟩), (1, .agg ⟨r.vals⟩), (2, .int .i64 (n : Int))] Tryz.func212 rfl (enters Tryz.func212 (by kernel_rfl) rfl) Tryz.ntmps212 rfl rfl ?_
  refine WP.seq <| WP.region <| vn (S1.box rfl rfl) rfl fun b3 => vn (S1.box rfl rfl) rfl fun b4 => vn (S1.alloc) rfl fun b6 => vE <| WP.seq <| WP.seq <| WP.region <| v0 (S0.move rfl) rfl <| v0 (S0.cmp rfl rfl rfl) rfl <| vE <| ?_
  first | refine WP.condP rfl (fun h1 => ?_) (fun h1 => ?_) | refine WP.condN rfl (fun h1 => ?_) (fun h1 => ?_) | refine WP.cond rfl (fun h1 => ?_) (fun h1 => ?_)
  · rw [if_pos (show n = 1 by omega)]
    refine WP.region <| v0 (S0.fieldAddr rfl) rfl <| v0 (S0.load rfl rfl) rfl <| v0 (S0.fieldAddr rfl) rfl <| v0 (S0.load rfl rfl) rfl <| ?_
    refine v0 (S0.indexArr rfl rfl ⟨by omega, by omega⟩) rfl <| ?_
    refine vs (S1.storeI rfl rfl rfl (l' := (r.set f s).vals) (r.set_v hf _) (by rw [R4.len]; omega)) <| ?_
    refine vE <| WP.seq <| WP.region <| v0 (S0.loadAL rfl) rfl <| vs (S1.storeA rfl rfl rfl) <| vE <| WP.ret <| ?_
    exact rc1 rfl rfl (load_agg (vs := (r.set f s).vals) (n := 4) (U := 69) (fz := (0, 0)) (by simp) rfl) rfl
  · rw [if_neg (show ¬ n = 1 by omega)]
    refine WP.skip <| WP.seq <| WP.region <| v0 (S0.loadAL rfl) rfl <| vs (S1.storeA rfl rfl rfl) <| vE <| WP.ret <| ?_
    exact rc1 rfl rfl (load_agg (vs := r.vals) (n := 4) (U := 69) (fz := (0, 0)) (by simp) rfl) rfl
theorem wv_m (x : Wr) : ∃ T v gu gd, wv x = .iface T v ∧ (∀ n w, (Go.method (n + 1) T v "rivulet/disk.units").run Tryz.prog w = .ok (gu, v) w) ∧ FN Tryz.prog gu [v] [] (is (.int .i64 (x.units : Int)) []) ∧
    (∀ n w, (Go.nilAhead (n + 1) T v "rivulet/disk.do").run Tryz.prog w = .ok (some false) w) ∧ (∀ n w, (Go.method (n + 1) T v "rivulet/disk.do").run Tryz.prog w = .ok (gd, v) w) ∧
    ∀ (r : R4) (n : Nat), x.f < 4 → n ≤ x.units → (r.get x.f).length + x.s.length ≤ 1000000000000 → FN Tryz.prog gd [v, .agg ⟨r.vals⟩, .int .i64 (n : Int)] [] (is (.agg ⟨(x.doW r n).vals⟩) []) := by
  unfold wv Wr.units Wr.doW
  by_cases h : x.w = true
  · rw [if_pos h, if_pos h]
    refine ⟨_, _, _, _, rfl, m_iu _, iu_spec x.f x.s, a_id _, m_id _, fun r n hf _ _ => ?_⟩
    rw [if_pos h]
    exact id_spec hf x.s r
  · rw [if_neg h, if_neg h]
    refine ⟨_, _, _, _, rfl, m_bu _, bu_spec x.f x.s, a_bd _, m_bd _, fun r n hf hn hl => ?_⟩
    rw [if_neg h]
    exact bd_spec hf x.s r hn hl
theorem wv_cv (x : Wr) : cellV (wv x) = true := by unfold wv; split <;> rfl
abbrev enW (x : Wr) : List Value := [wv x]
theorem enW_len (x : Wr) : (enW x).length = 0 + 1 := rfl
theorem whole_spec (x : Wr) : FN Tryz.prog 63 [wv x] [] (is (.bool x.w) []) := by
  unfold wv
  by_cases h : x.w = true
  · rw [if_pos h, h]
    refine FN.intro 10 [(0, .iface 149 (.agg ⟨[.int .i64 (x.f : Int), sv x.s]⟩))] Tryz.func63 rfl (enters Tryz.func63 (by kernel_rfl) rfl) Tryz.ntmps63 rfl rfl ?_
    refine WP.seq <| WP.region <| v0 (S0.assign rfl) rfl <| vE <| WP.seq <| WP.seq <| WP.region <| v0 (S0.move rfl) rfl <| vE <| WP.block <| WP.seq <| WP.region <| ?_
    refine v0 (S0.assertF Tryz.underlying148 rfl (by decide)) rfl <| ?_
    refine v0 (S0.extract rfl rfl) rfl <| v0 (S0.extract rfl rfl) rfl <| vE <| ?_
    refine WP.condFh rfl (rfl) ?_
    refine WP.seq <| WP.region <| ?_
    refine v0 (S0.assertT Tryz.underlying149 rfl) rfl <| ?_
    refine v0 (S0.extract rfl rfl) rfl <| v0 (S0.extract rfl rfl) rfl <| vE <| ?_
    refine WP.condTh rfl (rfl) ?_
    refine WP.seq <| WP.region <| v0 (S0.assign rfl) rfl <| vE <| WP.ret <| ?_
    refine r1 rfl rfl ⟨?_, rfl⟩
    rfl
  · rw [if_neg h, show x.w = false by simpa using h]
    refine FN.intro 10 [(0, .iface 148 (.agg ⟨[.int .i64 (x.f : Int), sv x.s]⟩))] Tryz.func63 rfl (enters Tryz.func63 (by kernel_rfl) rfl) Tryz.ntmps63 rfl rfl ?_
    refine WP.seq <| WP.region <| v0 (S0.assign rfl) rfl <| vE <| WP.seq <| WP.seq <| WP.region <| v0 (S0.move rfl) rfl <| vE <| WP.block <| WP.seq <| WP.region <| ?_
    refine v0 (S0.assertT Tryz.underlying148 rfl) rfl <| ?_
    refine v0 (S0.extract rfl rfl) rfl <| v0 (S0.extract rfl rfl) rfl <| vE <| ?_
    refine WP.condTh rfl (rfl) ?_
    refine WP.seq <| WP.region <| v0 (S0.assign rfl) rfl <| vE <| WP.ret <| ?_
    refine r1 rfl rfl ⟨?_, rfl⟩
    rfl
theorem known_spec {f : Nat} (hf : f < 4) : FN Tryz.prog 94 [.int .i64 (f : Int)] [] (is (.bool true) []) := by
  refine FN.intro 9 [(0, .int .i64 (f : Int))] Tryz.func94 rfl (enters Tryz.func94 (by kernel_rfl) rfl) Tryz.ntmps94 rfl rfl ?_
  refine WP.seq <| WP.region <| v0 (S0.assign rfl) rfl <| vE <| WP.seq <| WP.region <| v0 (S0.move rfl) rfl <| v0 (S0.cmp rfl rfl rfl) rfl <| v0 (S0.move rfl) rfl <| ?_
  refine csTh (t := 5) rfl ((by simp)) ?_
  refine gT rfl <| v0 (S0.move rfl) rfl <| gT rfl <| v0 (S0.cmp rfl rfl rfl) rfl <| v0 (S0.pickT rfl rfl) rfl <| v0 (S0.assign rfl) rfl <| vE <| WP.ret <| ?_
  refine r1 rfl rfl ⟨?_, rfl⟩
  simp; omega
abbrev dkC (n k : R4) (v : Value) : List Value := [sv n.a, sv n.b, sv n.c, sv n.d, sv k.a, sv k.b, sv k.c, sv k.d, v]
abbrev dkB (db : Nat) (n k : R4) (v : Value) : Blk := (db, .cells ⟨dkC n k v⟩ 72 (0, 0))
def IsDisk (db : Nat) (D : Dk) (c : List Blk) : Prop := ∃ v row, IsSl 96 1 v (D.W.flatMap enW) row ∧ c = dkB db D.now D.kept v :: row
structure DkOk (D : Dk) : Prop where
  now : ∀ f, (D.now.get f).length ≤ 65536
  kept : ∀ f, (D.kept.get f).length ≤ 65536
  w : ∀ x ∈ D.W, x.f < 4 ∧ x.s.length ≤ 65536
theorem Wr.units_le {x : Wr} (h : x.s.length ≤ 65536) : x.units ≤ 65536 := by unfold Wr.units; split <;> omega
theorem unitsL_le : ∀ (W : List Wr), (∀ x ∈ W, x.f < 4 ∧ x.s.length ≤ 65536) → unitsL W ≤ 65536 * W.length
  | [], _ => Nat.le_refl _
  | x :: W, h => by
    have h1 := Wr.units_le (h x (by simp)).2
    have h2 := unitsL_le W fun y hy => h y (by simp [hy])
    simp only [unitsL, List.length_cons]; omega
theorem dkC_get (n k : R4) (v : Value) {f : Nat} (hf : f < 4) : (dkC n k v)[0 + (f : Int).toNat * 1]? = some (sv (n.get f)) := by
  rw [show 0 + (f : Int).toNat * 1 = f by omega]
  match f, hf with
  | 0, _ => rfl
  | 1, _ => rfl
  | 2, _ => rfl
  | 3, _ => rfl
theorem new_spec : FN Tryz.prog 10 [] [] (fun u h => ∃ db c, u = .pointer (some ⟨db, 0, none⟩) ∧ IsDisk db dk0 c ∧ h = [c]) := by
  refine FN.intro 3 [] Tryz.func10 rfl (enters Tryz.func10 (by kernel_rfl) rfl) Tryz.ntmps10 rfl rfl ?_
  refine WP.seq <| WP.region <| v0 (S0.assign rfl) rfl <| vE <| WP.seq <| WP.region <| v0 (S0.build rfl (qs := []) rfl) rfl <| vn (S1.box rfl rfl) rfl fun b2 => v0 (S0.assign rfl) rfl <| vE <| WP.ret <| ?_
  refine r1 rfl rfl ?_
  exact ⟨_, _, rfl, ⟨_, [], IsSl.nil, rfl⟩, rfl⟩
theorem dread_spec {db : Nat} {D : Dk} {c : List Blk} (h : IsDisk db D c) {f : Nat} (hf : f < 4) : FN Tryz.prog 46 [.pointer (some ⟨db, 0, none⟩), .int .i64 (f : Int)] [c] (is (sv (D.now.get f)) [c]) := by
  obtain ⟨v, row, hs, rfl⟩ := h
  refine FN.intro 14 [(0, .pointer (some ⟨db, 0, none⟩)), (1, .int .i64 (f : Int))] Tryz.func46 rfl (enters Tryz.func46 (by kernel_rfl) rfl) Tryz.ntmps46 rfl rfl ?_
  refine WP.seq <| WP.region <| v0 (S0.assign rfl) rfl <| vE <| WP.seq <| WP.seq <| WP.region <| v0 (S0.move rfl) rfl <| ?_
  refine vcd (S1.callF rfl (known_spec hf) take0) rfl ?_
  refine v0 (S0.not rfl) rfl <| vE <| ?_
  refine WP.condFh rfl (rfl) ?_
  refine WP.skip <| WP.seq <| WP.region <| v0 (S0.move rfl) rfl <| v0 (S0.move rfl) rfl <| v0 (S0.nilCheck rfl) rfl <| v0 (S0.fieldAddr rfl) rfl <| ?_
  refine v0 (S0.indexArr rfl rfl ⟨by omega, by omega⟩) rfl <| ?_
  refine v0 (S0.load rfl (dkC_get _ _ _ hf)) rfl <| ?_
  refine v0 (S0.assign rfl) rfl <| vE <| WP.ret <| ?_
  refine r1 rfl rfl ⟨?_, rfl⟩
  rfl
theorem dsync_spec {db : Nat} {D : Dk} {c : List Blk} (h : IsDisk db D c) : FN Tryz.prog 64 [.pointer (some ⟨db, 0, none⟩)] [c] (fun _ h => ∃ c', IsDisk db (syncK D) c' ∧ h = [c']) := by
  obtain ⟨v, row, hs, rfl⟩ := h
  refine FN.intro 12 [(0, .pointer (some ⟨db, 0, none⟩))] Tryz.func64 rfl (enters Tryz.func64 (by kernel_rfl) rfl) Tryz.ntmps64 rfl rfl ?_
  refine WP.perm (h' := [[dkB db D.now D.kept v], row]) (k := []) (pm fun a_ => by (try simp only [List.flatten_append, List.flatten_cons, List.flatten_nil, List.append_nil, List.cons_append, List.nil_append, List.append_assoc, nOf_app, nOf_cons, nOf_nil, Nat.add_zero, Nat.zero_add, List.map_append, List.map_cons, List.map_nil, cel, sv]); first | done | omega) ?_
  refine WP.region <| v0 (S0.move rfl) rfl <| v0 (S0.move rfl) rfl <| v0 (S0.move rfl) rfl <| v0 (S0.nilCheck rfl) rfl <| v0 (S0.fieldAddr rfl) rfl <| v0 (S0.loadAL rfl) rfl <| v0 (S0.nilCheck rfl) rfl <| v0 (S0.fieldAddr rfl) rfl <| vs (S1.storeA rfl rfl rfl) <| v0 (S0.nilCheck rfl) rfl <| v0 (S0.fieldAddr rfl) rfl <| vs (S1.store rfl rfl (by first | rfl | exact IsSl.cv (by assumption))) <| vE <| ?_
  refine Leaves.drop (take1 at0 take0) ?_
  refine r0 rfl ?_
  exact ⟨_, ⟨_, [], IsSl.nil, rfl⟩, rfl⟩
theorem dput_spec {db : Nat} {D : Dk} {c : List Blk} (h : IsDisk db D c) (ho : DkOk D) (hW : D.W.length ≤ 1000000) {x : Wr} (hx : x.f < 4 ∧ x.s.length ≤ 65536) : FN Tryz.prog 112 [.pointer (some ⟨db, 0, none⟩), wv x] [c] (fun _ h => ∃ c', IsDisk db (putK D x) c' ∧ h = [c']) := by
  obtain ⟨v, row, hs, rfl⟩ := h
  obtain ⟨T, u, gu, gd, e, hmu, hu, hah, hmd, hd⟩ := wv_m x
  have hnl := ho.now x.f
  have hwl : (D.W.flatMap enW).length = D.W.length := by rw [flat_len (k := 1) (fun _ => rfl)]; omega
  rw [e]
  refine FN.intro 28 [(0, .pointer (some ⟨db, 0, none⟩)), (1, .iface T u)] Tryz.func112 rfl (enters Tryz.func112 (by kernel_rfl) rfl) Tryz.ntmps112 rfl rfl ?_
  refine WP.perm (h' := [[dkB db D.now D.kept v], row]) (k := []) (pm fun a_ => by (try simp only [List.flatten_append, List.flatten_cons, List.flatten_nil, List.append_nil, List.cons_append, List.nil_append, List.append_assoc, nOf_app, nOf_cons, nOf_nil, Nat.add_zero, Nat.zero_add, List.map_append, List.map_cons, List.map_nil, cel, sv]); first | done | omega) ?_
  refine WP.seq <| WP.drawP [(0, none), (1, none), (2, none), (3, none), (4, none), (5, none), (6, none), (8, none), (9, none), (10, none), (7, none), (11, none), (12, none), (13, none), (14, none)] mixed (by kernel_rfl) (by kernel_rfl) (by kernel_rfl) (take1 at0 take0) <| w0 rfl rfl rfl (S0.move rfl) rfl <| w0 rfl rfl rfl (S0.move rfl) rfl <| w0 rfl rfl rfl (S0.move rfl) rfl <| w0 rfl rfl rfl (S0.nilCheck rfl) rfl <| w0 rfl rfl rfl (S0.fieldAddr rfl) rfl <| w0 rfl rfl rfl (S0.loadAL rfl) rfl <| w0 rfl rfl rfl (S0.move rfl) rfl <| w0 rfl rfl rfl (S0.makeFunc rfl rfl) rfl <| ?_
  refine w0 rfl rfl rfl (S0.nilCheckM rfl hah) rfl <| ?_
  refine w0 rfl rfl rfl (S0.move rfl) rfl <| ?_
  refine wcd rfl rfl rfl rfl (S1.callM rfl rfl (hmu) (hu) take0) rfl ?_
  refine wcd rfl rfl rfl rfl (S1.callM rfl rfl (hmd) (hd D.now x.units hx.1 (Nat.le_refl _) (by omega)) take0) rfl ?_
  refine w0 rfl rfl rfl (S0.nilCheck rfl) rfl <| w0 rfl rfl rfl (S0.fieldAddr rfl) rfl <| ?_
  refine wlast rfl (by kernel_rfl) rfl rfl (S1.storeA rfl rfl rfl) ?_
  refine WP.region <| v0 (S0.move rfl) rfl <| v0 (S0.move rfl) rfl <| v0 (S0.nilCheck rfl) rfl <| v0 (S0.fieldAddr rfl) rfl <| v0 (S0.load rfl rfl) rfl <| v0 (S0.move rfl) rfl <| vnv (S1.buildSlice rfl (qs := [(0, _)]) rfl rfl) rfl fun b24 => ?_
  refine ve (S1.appendL rfl hs rfl rfl (atS (atS at0)) rfl rfl (by rw [hwl]; simp; omega)) rfl ?_
  rintro v2 _ ⟨row2, hs2, rfl⟩
  refine v0 (S0.nilCheck rfl) rfl <| v0 (S0.fieldAddr rfl) rfl <| vs (S1.store rfl rfl (by first | rfl | exact IsSl.cv (by assumption))) <| vE <| ?_
  refine Leaves.drop (h' := [dkB db (x.doW D.now x.units) D.kept v2 :: row2]) (k := [[(b24, .cells ⟨[.iface T u]⟩ 96 (0, 0))]]) (pm fun a_ => by (try simp only [List.flatten_append, List.flatten_cons, List.flatten_nil, List.append_nil, List.cons_append, List.nil_append, List.append_assoc, nOf_app, nOf_cons, nOf_nil, Nat.add_zero, Nat.zero_add, List.map_append, List.map_cons, List.map_nil, cel, sv, dkB, dkC]); first | done | omega) ?_
  refine r0 rfl ?_
  refine ⟨_, ⟨v2, row2, ?_, ?_⟩, rfl⟩
  · rw [← e] at hs2; simpa [putK] using hs2
  · rw [putK_now]; rfl
theorem Wr.doW_len {x : Wr} (hx : x.f < 4 ∧ x.s.length ≤ 65536) (r : R4) {n : Nat} {m : Nat} (h : ∀ f, (r.get f).length ≤ m) (f : Nat) : ((x.doW r n).get f).length ≤ m + 65536 := by
  rw [doW_get hx.1]
  have := h f
  split
  · split
    · split <;> omega
    · rw [List.length_append, List.length_take]; omega
  · omega
theorem append_spec {db : Nat} {D : Dk} {c : List Blk} (h : IsDisk db D c) (ho : DkOk D) (hW : D.W.length ≤ 1000000) {f : Nat} (hf : f < 4) (s : Str) : FN Tryz.prog 71 [.pointer (some ⟨db, 0, none⟩), .int .i64 (f : Int), sv s] [c] (fun u h => ∃ c', IsDisk db (appendK D f s).2 c' ∧ u = .int .i64 (appendK D f s).1 ∧ h = [c']) := by
  have hd := h
  obtain ⟨v, row, hs, rfl⟩ := h
  have hnl := ho.now f
  refine FN.intro 29 [(0, .pointer (some ⟨db, 0, none⟩)), (1, .int .i64 (f : Int)), (2, sv s)] Tryz.func71 rfl (enters Tryz.func71 (by kernel_rfl) rfl) Tryz.ntmps71 rfl rfl ?_
  refine WP.seq <| WP.region <| v0 (S0.assign rfl) rfl <| vE <| WP.seq <| WP.block <| WP.seq <| WP.region <| v0 (S0.move rfl) rfl <| ?_
  refine vcd (S1.callF rfl (known_spec hf) take0) rfl ?_
  refine v0 (S0.not rfl) rfl <| v0 (S0.assign rfl) rfl <| vE <| ?_
  refine WP.condFh rfl (rfl) ?_
  refine WP.seq <| WP.region <| v0 (S0.move rfl) rfl <| v0 (S0.lenSt rfl) rfl <| v0 (S0.move rfl) rfl <| v0 (S0.move rfl) rfl <| v0 (S0.nilCheck rfl) rfl <| v0 (S0.fieldAddr rfl) rfl <| ?_
  refine v0 (S0.indexArr rfl rfl ⟨by omega, by omega⟩) rfl <| ?_
  refine v0 (S0.load rfl (dkC_get _ _ _ hf)) rfl <| ?_
  refine v0 (S0.lenSt rfl) rfl <| v0 (S0.ari rfl rfl rfl (wrap_i64 (by omega))) rfl <| v0 (S0.cmp rfl rfl rfl) rfl <| v0 (S0.assign rfl) rfl <| vE <| ?_
  first | refine WP.condP rfl (fun h1 => ?_) (fun h1 => ?_) | refine WP.condN rfl (fun h1 => ?_) (fun h1 => ?_) | refine WP.cond rfl (fun h1 => ?_) (fun h1 => ?_)
  · have e : appendK D f s = (2, D) := by unfold appendK; rw [if_pos (by omega)]
    refine WP.seq <| WP.region <| v0 (S0.assign rfl) rfl <| vE <| WP.ret <| ?_
    refine r1 rfl rfl ?_
    rw [e]; exact ⟨_, hd, rfl, rfl⟩
  · have hsl : s.length ≤ 65536 := by omega
    have e : appendK D f s = (0, putK D ⟨false, f, s⟩) := by unfold appendK; rw [if_neg (by omega)]
    refine WP.skip <| WP.seq <| WP.region <| v0 (S0.move rfl) rfl <| v0 (S0.move rfl) rfl <| v0 (S0.move rfl) rfl <| v0 (S0.build rfl (qs := [(0, _), (1, _)]) rfl) rfl <| v0 (S0.mkI (by kernel_rfl) rfl) rfl <| ?_
    refine vc (S1.callF rfl (dput_spec hd ho hW (x := ⟨false, f, s⟩) ⟨hf, hsl⟩) (take1 at0 take0)) rfl ?_
    rintro _ _ ⟨c2, hd2, rfl⟩
    refine app ?_
    refine vE <| WP.seq <| WP.region <| v0 (S0.assign rfl) rfl <| vE <| WP.ret <| ?_
    refine r1 rfl rfl ?_
    rw [e]; exact ⟨_, hd2, rfl, rfl⟩
theorem replace_spec {db : Nat} {D : Dk} {c : List Blk} (h : IsDisk db D c) (ho : DkOk D) (hW : D.W.length ≤ 1000000) {f : Nat} (hf : f < 4) (s : Str) : FN Tryz.prog 81 [.pointer (some ⟨db, 0, none⟩), .int .i64 (f : Int), sv s] [c] (fun u h => ∃ c', IsDisk db (replaceK D f s).2 c' ∧ u = .int .i64 (replaceK D f s).1 ∧ h = [c']) := by
  refine FN.intro 21 [(0, .pointer (some ⟨db, 0, none⟩)), (1, .int .i64 (f : Int)), (2, sv s)] Tryz.func81 rfl (enters Tryz.func81 (by kernel_rfl) rfl) Tryz.ntmps81 rfl rfl ?_
  refine WP.seq <| WP.region <| v0 (S0.assign rfl) rfl <| vE <| WP.seq <| WP.block <| WP.seq <| WP.region <| v0 (S0.move rfl) rfl <| ?_
  refine vcd (S1.callF rfl (known_spec hf) take0) rfl ?_
  refine v0 (S0.not rfl) rfl <| v0 (S0.assign rfl) rfl <| vE <| ?_
  refine WP.condFh rfl (rfl) ?_
  refine WP.seq <| WP.region <| v0 (S0.move rfl) rfl <| v0 (S0.lenSt rfl) rfl <| v0 (S0.cmp rfl rfl rfl) rfl <| v0 (S0.assign rfl) rfl <| vE <| ?_
  first | refine WP.condP rfl (fun h1 => ?_) (fun h1 => ?_) | refine WP.condN rfl (fun h1 => ?_) (fun h1 => ?_) | refine WP.cond rfl (fun h1 => ?_) (fun h1 => ?_)
  · have e : replaceK D f s = (2, D) := by unfold replaceK; rw [if_pos (by omega)]
    refine WP.seq <| WP.region <| v0 (S0.assign rfl) rfl <| vE <| WP.ret <| ?_
    refine r1 rfl rfl ?_
    rw [e]; exact ⟨_, h, rfl, rfl⟩
  · have hsl : s.length ≤ 65536 := by omega
    have e : replaceK D f s = (0, putK D ⟨true, f, s⟩) := by unfold replaceK; rw [if_neg (by omega)]
    refine WP.skip <| WP.seq <| WP.region <| v0 (S0.move rfl) rfl <| v0 (S0.move rfl) rfl <| v0 (S0.move rfl) rfl <| v0 (S0.build rfl (qs := [(0, _), (1, _)]) rfl) rfl <| v0 (S0.mkI (by kernel_rfl) rfl) rfl <| ?_
    refine vc (S1.callF rfl (dput_spec h ho hW (x := ⟨true, f, s⟩) ⟨hf, hsl⟩) (take1 at0 take0)) rfl ?_
    rintro _ _ ⟨c2, hd2, rfl⟩
    refine app ?_
    refine vE <| WP.seq <| WP.region <| v0 (S0.assign rfl) rfl <| vE <| WP.ret <| ?_
    refine r1 rfl rfl ?_
    rw [e]; exact ⟨_, hd2, rfl, rfl⟩
theorem units_spec {db : Nat} {D : Dk} {c : List Blk} (h : IsDisk db D c) (ho : DkOk D) (hW : D.W.length ≤ 1000000) : FN Tryz.prog 32 [.pointer (some ⟨db, 0, none⟩)] [c] (is (.int .i64 (unitsL D.W : Int)) [c]) := by
  obtain ⟨v, row, hs, rfl⟩ := h
  obtain ⟨a, cap, rfl, hcap, hrow⟩ := IsSl.elems (k := 0) enW_len hs
  have hul := unitsL_le D.W ho.w
  refine FN.intro 21 [(0, .pointer (some ⟨db, 0, none⟩))] Tryz.func32 rfl (enters Tryz.func32 (by kernel_rfl) rfl) Tryz.ntmps32 rfl rfl ?_
  refine WP.seq <| WP.region <| v0 (S0.assign rfl) rfl <| vE <| WP.seq <| WP.region <| v0 (S0.assign rfl) rfl <| vE <| WP.seq <| WP.seq <| WP.region <| v0 (S0.move rfl) rfl <| v0 (S0.nilCheck rfl) rfl <| v0 (S0.fieldAddr rfl) rfl <| v0 (S0.load rfl rfl) rfl <| v0 (S0.lenSl rfl) rfl <| v0 (S0.move rfl) rfl <| vE <| WP.block <| ?_
  refine WP.loop (fun k : Nat => k ≤ D.W.length) (fun k : Nat => [(3, .int .i64 (unitsL (D.W.take k) : Int)), (9, .slice a D.W.length cap), (10, .int .i64 (D.W.length : Int)), (11, .int .i64 (k : Int))]) (fun k : Nat => [dkB db D.now D.kept (.slice a D.W.length cap) :: row]) (fun k : Nat => D.W.length - k) (0) (Nat.zero_le _) ⟨rfl, rfl, rfl, rfl, trivial⟩ ⟨_, (take1 at0 take0)⟩ (fun k hinv => ?_)
  refine WP.seq <| WP.region <| v0 (S0.cmp rfl rfl rfl) rfl <| vE <| WP.seq <| ?_
  first | refine WP.condP rfl (fun h1 => ?_) (fun h1 => ?_) | refine WP.condN rfl (fun h1 => ?_) (fun h1 => ?_) | refine WP.cond rfl (fun h1 => ?_) (fun h1 => ?_)
  · have hlt : k < D.W.length := by omega
    rcases hrow with ⟨e, -⟩ | ⟨b1, sp1, rfl, rfl, hsp1⟩
    · rw [e] at hlt; simp at hlt
    have hx : D.W[k]? = some D.W[k] := by simp [hlt]
    have hxm := ho.w _ (List.getElem_mem hlt)
    generalize D.W[k] = x at hx hxm
    have htk : D.W.take (k + 1) = D.W.take k ++ [x] := by rw [List.take_add_one, hx]; rfl
    have hst : unitsL (D.W.take (k + 1)) = unitsL (D.W.take k) + x.units := by rw [htk, unitsL_app]; simp [unitsL]
    have hxu := Wr.units_le hxm.2
    have hul2 := unitsL_le (D.W.take k) fun y hy => ho.w y (List.mem_of_mem_take hy)
    have htl : (D.W.take k).length ≤ 1000000 := by rw [List.length_take]; omega
    have g0 : (D.W.flatMap enW ++ sp1)[k]? = some (wv x) := by have := flat_get enW_len sp1 D.W k 0 x hx (by decide); simpa using this
    obtain ⟨T, u, gu, gd, e, hmu, hu, -⟩ := wv_m x
    rw [e] at g0
    refine WP.skip <| WP.seq <| WP.block <| WP.seq <| WP.region <| ?_
    refine v0 (S0.index1 rfl rfl hlt) rfl <| ?_
    refine v0 (S0.load rfl g0) rfl <| ?_
    refine v0 (S0.assign rfl) rfl <| vE <| WP.region <| v0 (S0.move rfl) rfl <| v0 (S0.move rfl) rfl <| ?_
    refine vcd (S1.callM rfl rfl (hmu) (hu) take0) rfl ?_
    refine v0 (S0.ari rfl rfl rfl (wrap_i64 (by omega))) rfl <| v0 (S0.assign rfl) rfl <| vE <| WP.region <| v0 (S0.ari rfl rfl rfl (wrap_i64 (by omega))) rfl <| v0 (S0.move rfl) rfl <| vE <| ?_
    rw [show (unitsL (D.W.take k) : Int) + (x.units : Int) = ((unitsL (D.W.take (k + 1)) : Nat) : Int) by omega]
    exact ⟨k + 1, (by first | exact hlt | (dsimp only; exact hlt)), (show D.W.length - (k + 1) < D.W.length - k by omega), ⟨⟨rfl, rfl, rfl, rfl, trivial⟩, rfl, rfl⟩, ⟨_, (take1 at0 take0)⟩⟩
  · have e : k = D.W.length := by omega
    rw [e, List.take_length]
    refine WP.exit <| WP.seq <| WP.region <| v0 (S0.move rfl) rfl <| v0 (S0.assign rfl) rfl <| vE <| WP.ret <| ?_
    refine r1 rfl rfl ⟨?_, rfl⟩
    rfl
end Go.Proofs.YtjpjebfodhbdfaaGreatDoor
namespace Go.Proofs.YtjpjebfodhbdfaaGreatDoor
open Go
theorem dsync0_spec {db : Nat} {n k : R4} {v : Value} {row : List Blk} : FN Tryz.prog 64 [.pointer (some ⟨db, 0, none⟩)] [[dkB db n k v], row] (fun _ h => h = [[dkB db n n (.slice none 0 0)]]) := by
  refine FN.intro 12 [(0, .pointer (some ⟨db, 0, none⟩))] Tryz.func64 rfl (enters Tryz.func64 (by kernel_rfl) rfl) Tryz.ntmps64 rfl rfl ?_
  refine WP.region <| v0 (S0.move rfl) rfl <| v0 (S0.move rfl) rfl <| v0 (S0.move rfl) rfl <| v0 (S0.nilCheck rfl) rfl <| v0 (S0.fieldAddr rfl) rfl <| v0 (S0.loadAL rfl) rfl <| v0 (S0.nilCheck rfl) rfl <| v0 (S0.fieldAddr rfl) rfl <| vs (S1.storeA rfl rfl rfl) <| v0 (S0.nilCheck rfl) rfl <| v0 (S0.fieldAddr rfl) rfl <| vs (S1.store rfl rfl (by first | rfl | exact IsSl.cv (by assumption))) <| vE <| ?_
  refine Leaves.drop (take1 at0 take0) ?_
  refine r0 rfl ?_
  rfl
theorem crash_spec {db : Nat} {D : Dk} {c : List Blk} (h : IsDisk db D c) (ho : DkOk D) (hW : D.W.length ≤ 1000000) (n : Int) : FN Tryz.prog 20 [.pointer (some ⟨db, 0, none⟩), .int .i64 n] [c] (fun u h => ∃ c', IsDisk db (crashK D n) c' ∧ u = .int .i64 (leftK D n : Int) ∧ h = [c']) := by
  have hd0 := h
  obtain ⟨v, row, hs, rfl⟩ := h
  obtain ⟨a, cap, rfl, hcap, hrow⟩ := IsSl.elems (k := 0) enW_len hs
  have hul := unitsL_le D.W ho.w
  have hlk : leftK D n ≤ unitsL D.W := by unfold leftK; omega
  refine FN.intro 63 [(0, .pointer (some ⟨db, 0, none⟩)), (1, .int .i64 n)] Tryz.func20 rfl (enters Tryz.func20 (by kernel_rfl) rfl) Tryz.ntmps20 rfl rfl ?_
  refine WP.seq <| WP.region <| v0 (S0.assign rfl) rfl <| vE <| WP.seq <| WP.region <| v0 (S0.move rfl) rfl <| v0 (S0.move rfl) rfl <| ?_
  refine vcd (S1.callF rfl (units_spec hd0 ho hW) (take1 at0 take0)) rfl ?_
  refine v0 (S0.min2 (c := min n (unitsL D.W : Int)) rfl rfl (by split <;> omega)) rfl <| ?_
  refine v0 (S0.max2 (c := ((leftK D n : Nat) : Int)) rfl rfl (by unfold leftK; split <;> omega)) rfl <| ?_
  refine v0 (S0.assign rfl) rfl <| vE <| WP.seq <| WP.region <| v0 (S0.move rfl) rfl <| v0 (S0.assign rfl) rfl <| vE <| WP.seq <| WP.region <| v0 (S0.move rfl) rfl <| v0 (S0.nilCheck rfl) rfl <| v0 (S0.fieldAddr rfl) rfl <| v0 (S0.loadAL rfl) rfl <| vn (S1.alloc) rfl fun b7 => vs (S1.storeA rfl rfl rfl) <| vE <| ?_
  refine WP.cutS (fun r : R4 => r = crashL D.W D.kept (leftK D n)) (fun r : R4 => [(0, .pointer (some ⟨db, 0, none⟩)), (6, .int .i64 (leftK D n : Int)), (7, .pointer (some ⟨b7, 0, none⟩))]) (fun r : R4 => [[(b7, .cells ⟨r.vals⟩ 69 (0, 0))], dkB db D.now D.kept (.slice a D.W.length cap) :: row]) ?_ (fun r hinv => ?_)
  · refine WP.seq <| WP.region <| v0 (S0.move rfl) rfl <| v0 (S0.nilCheck rfl) rfl <| v0 (S0.fieldAddr rfl) rfl <| v0 (S0.load rfl rfl) rfl <| v0 (S0.lenSl rfl) rfl <| v0 (S0.move rfl) rfl <| vE <| WP.block <| ?_
    refine WP.loop (fun st : Nat × R4 × Nat => st.1 ≤ D.W.length ∧ crashL D.W D.kept (leftK D n) = crashL (D.W.drop st.1) st.2.1 st.2.2 ∧ (∀ f, (st.2.1.get f).length ≤ 65536 * (st.1 + 1)) ∧ st.2.2 ≤ unitsL D.W) (fun st : Nat × R4 × Nat => [(0, .pointer (some ⟨db, 0, none⟩)), (5, .int .i64 (st.2.2 : Int)), (6, .int .i64 (leftK D n : Int)), (7, .pointer (some ⟨b7, 0, none⟩)), (24, .slice a D.W.length cap), (25, .int .i64 (D.W.length : Int)), (26, .int .i64 (st.1 : Int))]) (fun st : Nat × R4 × Nat => [[(b7, .cells ⟨st.2.1.vals⟩ 69 (0, 0))], dkB db D.now D.kept (.slice a D.W.length cap) :: row]) (fun st : Nat × R4 × Nat => D.W.length - st.1) ((0, D.kept, leftK D n)) (⟨Nat.zero_le _, rfl, fun f => by have := ho.kept f; omega, hlk⟩) ⟨rfl, rfl, rfl, rfl, rfl, rfl, rfl, trivial⟩ ⟨_, (take1 at0 (take1 at0 take0))⟩ (fun st hinv => ?_)
    obtain ⟨k, r, left⟩ := st
    obtain ⟨hk, hcr, hrl, hll⟩ := hinv
    dsimp only at hk hcr hrl hll ⊢
    refine WP.seq <| WP.region <| v0 (S0.cmp rfl rfl rfl) rfl <| vE <| WP.seq <| ?_
    first | refine WP.condP rfl (fun h1 => ?_) (fun h1 => ?_) | refine WP.condN rfl (fun h1 => ?_) (fun h1 => ?_) | refine WP.cond rfl (fun h1 => ?_) (fun h1 => ?_)
    · have hlt : k < D.W.length := by omega
      rcases hrow with ⟨e, -⟩ | ⟨b1, sp1, rfl, rfl, hsp1⟩
      · rw [e] at hlt; simp at hlt
      have hx : D.W[k]? = some D.W[k] := by simp [hlt]
      have hxm := ho.w _ (List.getElem_mem hlt)
      have hdr : D.W.drop k = D.W[k] :: D.W.drop (k + 1) := List.drop_eq_getElem_cons hlt
      generalize D.W[k] = x at hx hxm hdr
      rw [hdr, crashL] at hcr
      have hxu := Wr.units_le hxm.2
      have g0 : (D.W.flatMap enW ++ sp1)[k]? = some (wv x) := by have := flat_get enW_len sp1 D.W k 0 x hx (by decide); simpa using this
      obtain ⟨T, u, gu, gd, e, hmu, hu, -, hmd, hdo⟩ := wv_m x
      have hwh := whole_spec x
      rw [e] at g0 hwh
      have hr2 : ∀ f, ((x.doW r (min left x.units)).get f).length ≤ 65536 * (k + 1 + 1) := fun f => by have := Wr.doW_len hxm r (n := min left x.units) hrl f; omega
      refine WP.skip <| WP.seq <| WP.block <| WP.seq <| WP.region <| ?_
      refine v0 (S0.index1 rfl rfl hlt) rfl <| ?_
      refine v0 (S0.load rfl g0) rfl <| ?_
      refine v0 (S0.assign rfl) rfl <| vE <| WP.seq <| WP.region <| v0 (S0.move rfl) rfl <| v0 (S0.move rfl) rfl <| ?_
      refine vcd (S1.callM rfl rfl (hmu) (hu) take0) rfl ?_
      refine v0 (S0.min2 (c := ((min left x.units : Nat) : Int)) rfl rfl (by split <;> omega)) rfl <| ?_
      refine v0 (S0.assign rfl) rfl <| vE <| WP.seq <| WP.seq <| WP.region <| v0 (S0.move rfl) rfl <| ?_
      refine vcd (S1.callF rfl (hwh) take0) rfl ?_
      refine v0 (S0.move rfl) rfl <| ?_
      first | refine csP (t := 36) rfl (fun h2 => ?_) (fun h2 => ?_) | refine csN (t := 36) rfl (fun h2 => ?_) (fun h2 => ?_) | refine cs (t := 36) rfl (fun h2 => ?_) (fun h2 => ?_)
      · refine gT rfl <| v0 (S0.move rfl) rfl <| gT rfl <| v0 (S0.move rfl) rfl <| ?_
        refine gT rfl <| vcd (S1.callM rfl rfl (hmu) (hu) take0) rfl ?_
        refine gT rfl <| v0 (S0.cmp rfl rfl rfl) rfl <| v0 (S0.pickT rfl rfl) rfl <| vE <| ?_
        first | refine WP.condP rfl (fun h3 => ?_) (fun h3 => ?_) | refine WP.condN rfl (fun h3 => ?_) (fun h3 => ?_) | refine WP.cond rfl (fun h3 => ?_) (fun h3 => ?_)
        · rw [if_pos ⟨h2, by omega⟩] at hcr
          refine WP.exit <| ?_
          exact ⟨r, (by first | exact hcr.symm | (dsimp only; exact hcr.symm)), ⟨⟨rfl, rfl, rfl, trivial⟩, rfl, rfl⟩, ⟨_, (take1 at0 (take1 at0 take0))⟩⟩
        · rw [if_neg (fun e => by omega)] at hcr
          refine WP.skip <| WP.seq <| WP.region <| v0 (S0.move rfl) rfl <| v0 (S0.loadAL rfl) rfl <| v0 (S0.move rfl) rfl <| ?_
          refine vcd (S1.callM rfl rfl (hmd) (hdo r (min left x.units) hxm.1 (by omega) (by have := hrl x.f; omega)) take0) rfl ?_
          refine vs (S1.storeA rfl rfl rfl) <| vE <| WP.region <| v0 (S0.move rfl) rfl <| v0 (S0.move rfl) rfl <| v0 (S0.ari rfl rfl rfl (wrap_i64 (by omega))) rfl <| v0 (S0.assign rfl) rfl <| vE <| WP.region <| v0 (S0.ari rfl rfl rfl (wrap_i64 (by omega))) rfl <| v0 (S0.move rfl) rfl <| vE <| ?_
          rw [show (left : Int) - ((min left x.units : Nat) : Int) = ((left - min left x.units : Nat) : Int) by omega]
          exact ⟨(k + 1, x.doW r (min left x.units), left - min left x.units), (by first | exact ⟨hlt, hcr, hr2, by omega⟩ | (dsimp only; exact ⟨hlt, hcr, hr2, by omega⟩)), (show D.W.length - (k + 1) < D.W.length - k by omega), ⟨⟨rfl, rfl, rfl, rfl, rfl, rfl, rfl, trivial⟩, rfl, rfl⟩, ⟨_, (take1 at0 (take1 at0 take0))⟩⟩
      · rw [if_neg (fun e => by rw [h2] at e; cases e.1)] at hcr
        refine gF rfl rfl <| gF rfl rfl <| gF rfl rfl <| gF rfl rfl <| v0 (S0.pickF rfl rfl) rfl <| vE <| WP.condF rfl <| WP.skip <| WP.seq <| WP.region <| v0 (S0.move rfl) rfl <| v0 (S0.loadAL rfl) rfl <| v0 (S0.move rfl) rfl <| ?_
        refine vcd (S1.callM rfl rfl (hmd) (hdo r (min left x.units) hxm.1 (by omega) (by have := hrl x.f; omega)) take0) rfl ?_
        refine vs (S1.storeA rfl rfl rfl) <| vE <| WP.region <| v0 (S0.move rfl) rfl <| v0 (S0.move rfl) rfl <| v0 (S0.ari rfl rfl rfl (wrap_i64 (by omega))) rfl <| v0 (S0.assign rfl) rfl <| vE <| WP.region <| v0 (S0.ari rfl rfl rfl (wrap_i64 (by omega))) rfl <| v0 (S0.move rfl) rfl <| vE <| ?_
        rw [show (left : Int) - ((min left x.units : Nat) : Int) = ((left - min left x.units : Nat) : Int) by omega]
        exact ⟨(k + 1, x.doW r (min left x.units), left - min left x.units), (by first | exact ⟨hlt, hcr, hr2, by omega⟩ | (dsimp only; exact ⟨hlt, hcr, hr2, by omega⟩)), (show D.W.length - (k + 1) < D.W.length - k by omega), ⟨⟨rfl, rfl, rfl, rfl, rfl, rfl, rfl, trivial⟩, rfl, rfl⟩, ⟨_, (take1 at0 (take1 at0 take0))⟩⟩
    · have e : k = D.W.length := by omega
      rw [e, List.drop_length, crashL] at hcr
      refine WP.exit <| ?_
      exact ⟨r, (by first | exact hcr.symm | (dsimp only; exact hcr.symm)), ⟨⟨rfl, rfl, rfl, trivial⟩, rfl, rfl⟩, ⟨_, (take1 at0 (take1 at0 take0))⟩⟩
  have hres : IsDisk db (crashK D n) [dkB db r r (.slice none 0 0)] := by
    refine ⟨_, [], IsSl.nil, ?_⟩
    show _ = [dkB db (crashL D.W D.kept (leftK D n)) (crashL D.W D.kept (leftK D n)) _]
    rw [← hinv]
  refine WP.perm (h' := [[(b7, .cells ⟨r.vals⟩ 69 (0, 0))], [dkB db D.now D.kept (.slice a D.W.length cap)], row]) (k := []) (pm fun a_ => by (try simp only [List.flatten_append, List.flatten_cons, List.flatten_nil, List.append_nil, List.cons_append, List.nil_append, List.append_assoc, nOf_app, nOf_cons, nOf_nil, Nat.add_zero, Nat.zero_add, List.map_append, List.map_cons, List.map_nil, cel, sv]); first | done | omega) ?_
  refine WP.seq <| WP.seq <| WP.drawP [(0, none), (1, none), (2, none), (3, none), (4, none), (5, none)] mixed (by kernel_rfl) (by kernel_rfl) (by kernel_rfl) (take1 at0 (take1 at0 take0)) <| w0 rfl rfl rfl (S0.move rfl) rfl <| w0 rfl rfl rfl (S0.nilCheck rfl) rfl <| w0 rfl rfl rfl (S0.fieldAddr rfl) rfl <| w0 rfl rfl rfl (S0.loadAL rfl) rfl <| w0 rfl rfl rfl (S0.loadAL rfl) rfl <| ?_
  refine w0 rfl rfl rfl (S0.neArr (xs := [D.now.a, D.now.b, D.now.c, D.now.d]) (ys := [r.a, r.b, r.c, r.d]) rfl rfl rfl rfl (by kernel_rfl)) rfl <| ?_
  refine wE <| ?_
  first | refine WP.condP rfl (fun h3 => ?_) (fun h3 => ?_) | refine WP.condN rfl (fun h3 => ?_) (fun h3 => ?_) | refine WP.cond rfl (fun h3 => ?_) (fun h3 => ?_)
  · refine WP.region <| v0 (S0.move rfl) rfl <| v0 (S0.loadAL rfl) rfl <| v0 (S0.nilCheck rfl) rfl <| v0 (S0.fieldAddr rfl) rfl <| vs (S1.storeA rfl rfl rfl) <| vE <| WP.seq <| WP.region <| v0 (S0.move rfl) rfl <| ?_
    refine vc (S1.callF rfl (dsync0_spec (db := db) (n := r) (k := D.kept) (v := .slice a D.W.length cap) (row := row)) (take1 (atS at0) (take1 (atS at0) take0))) rfl ?_
    rintro _ _ rfl
    refine app ?_
    refine vE <| WP.seq <| WP.region <| v0 (S0.move rfl) rfl <| v0 (S0.assign rfl) rfl <| vE <| WP.ret <| ?_
    refine Leaves.drop (take1 at0 take0) ?_
    refine r1 rfl rfl ?_
    exact ⟨_, hres, rfl, rfl⟩
  · have en : D.now = r := by
      have h4 : [D.now.a, D.now.b, D.now.c, D.now.d] = [r.a, r.b, r.c, r.d] := by simpa using h3
      simp only [List.cons.injEq, and_true] at h4
      obtain ⟨e1, e2, e3, e4⟩ := h4
      show R4.mk D.now.a D.now.b D.now.c D.now.d = R4.mk r.a r.b r.c r.d
      rw [e1, e2, e3, e4]
    refine WP.skip <| WP.seq <| WP.region <| v0 (S0.move rfl) rfl <| ?_
    refine vc (S1.callF rfl (dsync0_spec (db := db) (n := D.now) (k := D.kept) (v := .slice a D.W.length cap) (row := row)) (take1 (atS at0) (take1 (atS at0) take0))) rfl ?_
    rintro _ _ rfl
    refine app ?_
    refine vE <| WP.seq <| WP.region <| v0 (S0.move rfl) rfl <| v0 (S0.assign rfl) rfl <| vE <| WP.ret <| ?_
    refine Leaves.drop (take1 at0 take0) ?_
    refine r1 rfl rfl ?_
    rw [en]
    exact ⟨_, hres, rfl, rfl⟩
theorem wclone_spec {v : Value} {W : List Wr} {row : List Blk} (hs : IsSl 96 1 v (W.flatMap enW) row) (hl : W.length ≤ 1000000) : FN Tryz.prog 111 [v] [row] (fun u h => ∃ row2, IsSl 96 1 u (W.flatMap enW) row2 ∧ h = [row2, row]) := by
  obtain ⟨a, cap, rfl, hcap, hrow⟩ := IsSl.elems (k := 0) enW_len hs
  have hwl : (W.flatMap enW).length = W.length := by rw [flat_len (k := 1) (fun _ => rfl)]; omega
  rcases hrow with ⟨rfl, rfl, rfl, rfl⟩ | ⟨b, sp, rfl, rfl, hsp⟩
  · refine FN.intro 8 [(0, .slice none ([] : List Wr).length 0)] Tryz.func111 rfl (enters Tryz.func111 (by kernel_rfl) rfl) Tryz.ntmps111 rfl rfl ?_
    refine WP.perm (h' := [[], []]) (k := []) (by simp) ?_
    refine WP.seq <| WP.region <| v0 (S0.assign rfl) rfl <| vE <| WP.seq <| WP.seq <| WP.region <| v0 (S0.move rfl) rfl <| v0 (S0.nilSl rfl rfl rfl) rfl <| vE <| ?_
    refine WP.condTh rfl (rfl) ?_
    refine WP.seq <| WP.region <| v0 (S0.assign rfl) rfl <| vE <| WP.ret <| ?_
    refine r1 rfl rfl ?_
    exact ⟨[], IsSl.nil, rfl⟩
  · refine FN.intro 8 [(0, .slice (some ⟨b, 0, none⟩) W.length cap)] Tryz.func111 rfl (enters Tryz.func111 (by kernel_rfl) rfl) Tryz.ntmps111 rfl rfl ?_
    refine WP.seq <| WP.region <| v0 (S0.assign rfl) rfl <| vE <| WP.seq <| WP.seq <| WP.region <| v0 (S0.move rfl) rfl <| v0 (S0.nilSl rfl rfl rfl) rfl <| vE <| ?_
    refine WP.condFh rfl (rfl) ?_
    refine WP.skip <| WP.seq <| WP.region <| vnv (S1.buildSlice rfl (qs := []) rfl rfl) rfl fun b5 => v0 (S0.move rfl) rfl <| ?_
    refine ve (S1.appendS rfl (IsSl.row (n := 0) (c := 0) (l := []) (sp := []) rfl rfl (Nat.le_refl _)) rfl (by rw [List.length_append, hwl]; omega) (by rw [List.drop_zero, Nat.zero_add, Nat.mul_one, ← hwl, List.take_left]) at0 (flat_cv (fun x => by simp [wv_cv]) W) rfl (by rw [hwl]; simp only [List.length_nil]; omega)) rfl ?_
    rintro v2 _ ⟨row2, hsl2, rfl⟩
    rw [List.nil_append] at hsl2
    refine v0 (S0.assign rfl) rfl <| vE <| WP.ret <| ?_
    refine r1 rfl rfl ?_
    exact ⟨row2, hsl2, rfl⟩
theorem copy_spec {db : Nat} {D : Dk} {c : List Blk} (h : IsDisk db D c) (hW : D.W.length ≤ 1000000) : FN Tryz.prog 70 [.pointer (some ⟨db, 0, none⟩)] [c] (fun u h => ∃ db2 c2, u = .pointer (some ⟨db2, 0, none⟩) ∧ IsDisk db2 D c2 ∧ h = [c2, c]) := by
  obtain ⟨v, row, hs, rfl⟩ := h
  refine FN.intro 18 [(0, .pointer (some ⟨db, 0, none⟩))] Tryz.func70 rfl (enters Tryz.func70 (by kernel_rfl) rfl) Tryz.ntmps70 rfl rfl ?_
  refine WP.perm (h' := [[dkB db D.now D.kept v], row]) (k := []) (pm fun a_ => by (try simp only [List.flatten_append, List.flatten_cons, List.flatten_nil, List.append_nil, List.cons_append, List.nil_append, List.append_assoc, nOf_app, nOf_cons, nOf_nil, Nat.add_zero, Nat.zero_add, List.map_append, List.map_cons, List.map_nil, cel, sv]); first | done | omega) ?_
  refine WP.seq <| WP.region <| v0 (S0.assign rfl) rfl <| vE <| WP.seq <| WP.drawP [(0, none), (1, none), (2, none), (3, none), (4, none), (5, none), (6, none), (7, none), (8, none), (9, none), (10, none), (11, none), (12, none), (13, none), (14, none), (15, none)] mixed (by kernel_rfl) (by kernel_rfl) (by kernel_rfl) (take1 at0 (take1 at0 take0)) <| w0 rfl rfl rfl (S0.move rfl) rfl <| w0 rfl rfl rfl (S0.nilCheck rfl) rfl <| w0 rfl rfl rfl (S0.fieldAddr rfl) rfl <| w0 rfl rfl rfl (S0.loadAL rfl) rfl <| w0 rfl rfl rfl (S0.move rfl) rfl <| w0 rfl rfl rfl (S0.nilCheck rfl) rfl <| w0 rfl rfl rfl (S0.fieldAddr rfl) rfl <| w0 rfl rfl rfl (S0.loadAL rfl) rfl <| w0 rfl rfl rfl (S0.move rfl) rfl <| w0 rfl rfl rfl (S0.nilCheck rfl) rfl <| w0 rfl rfl rfl (S0.fieldAddr rfl) rfl <| w0 rfl rfl rfl (S0.load rfl rfl) rfl <| ?_
  refine weS rfl rfl rfl rfl (S1.callF rfl (wclone_spec hs hW) (take1 (atS at0) take0)) rfl ?_
  rintro _ _ ⟨_, ⟨row2, hs2, rfl⟩, rfl⟩
  refine ⟨_, (take1 (atS (atS at0)) (take1 (atS at0) take0)), ?_⟩
  obtain ⟨a2, cap2, rfl, -, -⟩ := IsSl.elems (k := 0) enW_len hs2
  refine w0 rfl rfl rfl (S0.build rfl (qs := [(0, _), (1, _), (2, _)]) rfl) rfl <| wn rfl rfl rfl rfl (S1.box rfl rfl) rfl fun b17 => w0 rfl rfl rfl (S0.assign rfl) rfl <| wE <| WP.ret <| ?_
  refine Leaves.drop (h' := [dkB b17 D.now D.kept (.slice a2 D.W.length cap2) :: row2, dkB db D.now D.kept v :: row]) (k := []) (pm fun a_ => by (try simp only [List.flatten_append, List.flatten_cons, List.flatten_nil, List.append_nil, List.cons_append, List.nil_append, List.append_assoc, nOf_app, nOf_cons, nOf_nil, Nat.add_zero, Nat.zero_add, List.map_append, List.map_cons, List.map_nil, cel, sv, dkB, dkC]); first | done | omega) ?_
  refine r1 rfl rfl ?_
  exact ⟨b17, _, rfl, ⟨_, row2, hs2, rfl⟩, rfl⟩
end Go.Proofs.YtjpjebfodhbdfaaGreatDoor
namespace Go.Proofs.YtjpjebfodhbdfaaGreatDoor
open Go
abbrev enV (x : Wr) : List Value := [.int .i64 (x.f : Int), sv x.s, .bool x.w]
abbrev rdkB (rb : Nat) (k : R4) (v : Value) : Blk := (rb, .cells ⟨[sv k.a, sv k.b, sv k.c, sv k.d, v]⟩ 31 (0, 0))
end Go.Proofs.YtjpjebfodhbdfaaGreatDoor
namespace Go.Proofs.YtjpjebfodhbdfaaGreatDoor
open Go
abbrev MkT := Int × Int
abbrev enM (x : MkT) : List Value := [.int .i64 x.1, .int .i64 x.2]
theorem enM_len (x : MkT) : (enM x).length = 1 + 1 := rfl
def inI (n a b : Int) : Bool := decide (a ≤ n) && decide (n ≤ b)
def badM (last : Int) (x : MkT) : Bool := decide (x.1 ≤ last) || decide (1099511627776 < x.1) || !inI x.2 1 1099511627776
def risM : Int → List MkT → Bool
  | _, [] => true
  | last, x :: l => !badM last x && risM x.1 l
def sortedM (l : List MkT) : Bool := risM (-1) l && decide (l.length ≤ 32)
def marksB (l : List MkT) : Str := if sortedM l = true then putV l.length ++ l.flatMap fun m => putV m.1.toNat ++ putV m.2.toNat else []
theorem risM_mem : ∀ {l : List MkT} {last : Int}, -1 ≤ last → risM last l = true → ∀ x ∈ l, last < x.1 ∧ x.1 ≤ 1099511627776 ∧ 1 ≤ x.2 ∧ x.2 ≤ 1099511627776
  | [], _, _, _ => by simp
  | y :: l, last, hl, h => by
    simp only [risM, Bool.and_eq_true, badM, inI, Bool.not_eq_true', Bool.or_eq_false_iff, decide_eq_false_iff_not, Bool.not_eq_false', decide_eq_true_eq] at h
    intro x hx
    obtain ⟨⟨⟨h1, h2⟩, h3, h4⟩, h5⟩ := h
    rcases List.mem_cons.1 hx with rfl | hx
    · exact ⟨by omega, by omega, h3, h4⟩
    · have := risM_mem (by omega) h5 x hx
      exact ⟨by omega, this.2⟩
end Go.Proofs.YtjpjebfodhbdfaaGreatDoor
namespace Go.Proofs.YtjpjebfodhbdfaaGreatDoor
open Go
structure Ev where
  o : Int
  s : Int
  t : Str
  l : Str
  e : Int
deriving DecidableEq
abbrev evB (x : Ev) : List Value := [.int .i64 x.o, .int .i64 x.s, sv x.t, sv x.l, .int .i64 x.e]
theorem evB_len (x : Ev) : (evB x).length = 4 + 1 := rfl
def inB (n a b : Int) : Bool := decide (a ≤ n) && decide (n ≤ b)
def rightE (x : Ev) : Bool := inB x.o 0 1099511627776 && inB x.s 1 1099511627776 && inB x.e 0 1000 && rightS x.t && decide (x.l.length ≤ 64)
theorem inB_iff {n a b : Int} : inB n a b = true ↔ a ≤ n ∧ n ≤ b := by simp [inB]
theorem rightE_bd {x : Ev} (h : rightE x = true) : (0 ≤ x.o ∧ x.o ≤ 1099511627776) ∧ (1 ≤ x.s ∧ x.s ≤ 1099511627776) ∧ (0 ≤ x.e ∧ x.e ≤ 1000) := by
  simp only [rightE, Bool.and_eq_true, inB_iff] at h
  exact ⟨h.1.1.1.1, h.1.1.1.2, h.1.1.2⟩
end Go.Proofs.YtjpjebfodhbdfaaGreatDoor
namespace Go.Proofs.YtjpjebfodhbdfaaGreatDoor
open Go
def mkO : List MkT → Int → Option Int
  | [], _ => none
  | m :: M, o => if m.1 = o then some m.2 else mkO M o
def setMk (M : List MkT) (m : MkT) : List MkT := (M.filter fun x => decide (x.1 < m.1)) ++ m :: M.filter fun x => decide (m.1 < x.1)
abbrev RisM (M : List MkT) : Prop := M.Pairwise fun x y => x.1 < y.1
theorem risM_pair : ∀ {l : List MkT} {last : Int}, risM last l = true → (∀ x ∈ l, last < x.1) ∧ RisM l
  | [], _, _ => ⟨by simp, List.Pairwise.nil⟩
  | y :: l, last, h => by
    simp only [risM, Bool.and_eq_true, badM, Bool.not_eq_true', Bool.or_eq_false_iff, decide_eq_false_iff_not] at h
    obtain ⟨⟨⟨h1, h2⟩, h3⟩, h4⟩ := h
    obtain ⟨h5, h6⟩ := risM_pair h4
    refine ⟨fun x hx => ?_, List.pairwise_cons.2 ⟨h5, h6⟩⟩
    rcases List.mem_cons.1 hx with rfl | hx
    · omega
    · have := h5 x hx; omega
theorem risM_of : ∀ {l : List MkT} {last : Int}, -1 ≤ last → (∀ x ∈ l, last < x.1 ∧ x.1 ≤ 1099511627776 ∧ 1 ≤ x.2 ∧ x.2 ≤ 1099511627776) → RisM l → risM last l = true
  | [], _, _, _, _ => rfl
  | y :: l, last, hl, h, hr => by
    have hy := h y (by simp)
    obtain ⟨h1, h2⟩ := List.pairwise_cons.1 hr
    simp only [risM, Bool.and_eq_true, badM, inI, Bool.not_eq_true', Bool.or_eq_false_iff, decide_eq_false_iff_not, Bool.not_eq_false', decide_eq_true_eq]
    exact ⟨⟨⟨by omega, by omega⟩, hy.2.2⟩, risM_of (by omega) (fun x hx => ⟨h1 x hx, (h x (by simp [hx])).2⟩) h2⟩
theorem sortedM_iff {M : List MkT} : sortedM M = true ↔ RisM M ∧ (∀ x ∈ M, 0 ≤ x.1 ∧ x.1 ≤ 1099511627776 ∧ 1 ≤ x.2 ∧ x.2 ≤ 1099511627776) ∧ M.length ≤ 32 := by
  simp only [sortedM, Bool.and_eq_true, decide_eq_true_eq]
  constructor
  · rintro ⟨h1, h2⟩
    exact ⟨(risM_pair h1).2, fun x hx => by have := risM_mem (by omega) h1 x hx; exact ⟨by omega, this.2⟩, h2⟩
  · rintro ⟨h1, h2, h3⟩
    exact ⟨risM_of (by omega) (fun x hx => by have := h2 x hx; exact ⟨by omega, this.2⟩) h1, h3⟩
theorem mkO_none {M : List MkT} {o : Int} : mkO M o = none ↔ o ∉ M.map (·.1) := by
  induction M with
  | nil => simp [mkO]
  | cons x M ih =>
    simp only [mkO, List.map_cons, List.mem_cons, not_or]
    by_cases h : x.1 = o
    · rw [if_pos h]; exact ⟨fun e => (by cases e), fun e => absurd h.symm e.1⟩
    · rw [if_neg h, ih]; exact ⟨fun e => ⟨fun e2 => h e2.symm, e⟩, fun e => e.2⟩
theorem mkO_of {M : List MkT} (hr : RisM M) {x : MkT} (h : x ∈ M) : mkO M x.1 = some x.2 := by
  induction M with
  | nil => cases h
  | cons y M ih =>
    obtain ⟨h1, h2⟩ := List.pairwise_cons.1 hr
    simp only [mkO]
    rcases List.mem_cons.1 h with rfl | h
    · simp
    · have := h1 x h
      rw [if_neg (by omega)]; exact ih h2 h
theorem mkO_app {a b : List MkT} {o : Int} : mkO (a ++ b) o = (mkO a o).or (mkO b o) := by
  induction a with
  | nil => simp [mkO]
  | cons x a ih =>
    simp only [List.cons_append, mkO]
    by_cases h : x.1 = o
    · simp [h]
    · simp [h, ih]
theorem mkO_filter {M : List MkT} (p : Int → Bool) (o : Int) : mkO (M.filter fun x => p x.1) o = if p o = true then mkO M o else none := by
  induction M with
  | nil => simp [mkO]
  | cons x M ih =>
    by_cases hp : p x.1 = true
    · rw [List.filter_cons_of_pos (by simpa using hp)]
      simp only [mkO, ih]
      by_cases h : x.1 = o
      · subst h; simp [hp]
      · simp [h]
    · rw [List.filter_cons_of_neg (by simpa using hp), ih]
      simp only [mkO]
      by_cases h : x.1 = o
      · subst h; simp [hp]
      · simp [h]
theorem mkO_set (M : List MkT) (m : MkT) (o : Int) : mkO (setMk M m) o = if o = m.1 then some m.2 else mkO M o := by
  unfold setMk
  rw [mkO_app, mkO, mkO_filter (fun x => decide (x < m.1)), mkO_filter (fun x => decide (m.1 < x))]
  by_cases h : o = m.1
  · subst h; simp
  · have h' : ¬ m.1 = o := fun e => h e.symm
    by_cases h2 : o < m.1
    · have : ¬ m.1 < o := by omega
      simp only [h, h', h2, this, decide_true, decide_false, if_true, if_false, Bool.false_eq_true]
      cases mkO M o <;> rfl
    · have : m.1 < o := by omega
      simp only [h, h', h2, this, decide_true, decide_false, if_true, if_false, Bool.false_eq_true]
      rfl
theorem ris_set {M : List MkT} (h : RisM M) (m : MkT) : RisM (setMk M m) := by
  unfold setMk
  refine List.pairwise_append.2 ⟨h.sublist List.filter_sublist, List.pairwise_cons.2 ⟨fun x hx => ?_, h.sublist List.filter_sublist⟩, fun x hx y hy => ?_⟩
  · simpa using (List.mem_filter.1 hx).2
  · have h1 : x.1 < m.1 := by simpa using (List.mem_filter.1 hx).2
    rcases List.mem_cons.1 hy with rfl | hy
    · exact h1
    · have h2 : m.1 < y.1 := by simpa using (List.mem_filter.1 hy).2
      omega
theorem set_mem {M : List MkT} {m x : MkT} (h : x ∈ setMk M m) : x = m ∨ x ∈ M := by
  unfold setMk at h
  simp only [List.mem_append, List.mem_cons, List.mem_filter] at h
  rcases h with h | h | h
  · exact .inr h.1
  · exact .inl h
  · exact .inr h.1
theorem set_len' {M : List MkT} (h : RisM M) (m : MkT) : (setMk M m).length = match mkO M m.1 with | some _ => M.length | none => M.length + 1 := by
  induction M with
  | nil => simp [setMk, mkO]
  | cons x M ih =>
    obtain ⟨h1, h2⟩ := List.pairwise_cons.1 h
    have ih := ih h2
    unfold setMk at ih ⊢
    simp only [List.length_append, List.length_cons] at ih ⊢
    by_cases e1 : x.1 < m.1
    · have e : mkO (x :: M) m.1 = mkO M m.1 := by simp only [mkO]; rw [if_neg (by omega)]
      rw [List.filter_cons_of_pos (by simpa using e1), List.filter_cons_of_neg (by simp; omega), e]
      simp only [List.length_cons]
      cases hm : mkO M m.1 <;> rw [hm] at ih <;> simp only at ih ⊢ <;> omega
    · by_cases e2 : x.1 = m.1
      · have e : mkO (x :: M) m.1 = some x.2 := by simp only [mkO]; rw [if_pos e2]
        rw [List.filter_cons_of_neg (by simp; omega), List.filter_cons_of_neg (by simp; omega), e]
        have e3 : M.filter (fun y => decide (y.1 < m.1)) = [] := List.filter_eq_nil_iff.2 fun y hy => by have := h1 y hy; simp; omega
        have e4 : M.filter (fun y => decide (m.1 < y.1)) = M := List.filter_eq_self.2 fun y hy => by have := h1 y hy; simp; omega
        rw [e3, e4]; simp
      · have e5 : mkO M m.1 = none := mkO_none.2 fun hm => by
          obtain ⟨y, hy, e⟩ := List.mem_map.1 hm
          have := h1 y hy; omega
        have e : mkO (x :: M) m.1 = none := by simp only [mkO]; rw [if_neg e2, e5]
        rw [e5] at ih
        rw [List.filter_cons_of_neg (by simp; omega), List.filter_cons_of_pos (by simp; omega), e]
        simp only [List.length_cons] at ih ⊢
        omega
theorem unl_le : ∀ (l : List Str), (∀ x ∈ l, x.length ≤ 16) → (unl l).length ≤ 17 * l.length
  | [], _ => by simp [unl]
  | [a], h => by have := h a (by simp); simp [unl]; omega
  | a :: b :: l, h => by
    have h1 := unl_le (b :: l) fun x hx => h x (by simp [hx])
    have h2 := h a (by simp)
    simp only [unl, List.length_append, List.length_cons] at h1 ⊢
    omega
end Go.Proofs.YtjpjebfodhbdfaaGreatDoor
namespace Go.Proofs.YtjpjebfodhbdfaaGreatDoor
open Go
theorem withinI_spec (n a b : Int) : FN Tryz.prog 129 [.int .i64 n, .int .i64 a, .int .i64 b] [] (is (.bool (inI n a b)) []) := by
  refine FN.intro 15 [(0, .int .i64 n), (1, .int .i64 a), (2, .int .i64 b)] Tryz.func129 rfl (enters Tryz.func129 (by kernel_rfl) rfl) Tryz.ntmps129 rfl rfl ?_
  refine WP.seq <| WP.region <| v0 (S0.assign rfl) rfl <| vE <| WP.seq <| WP.region <| v0 (S0.move rfl) rfl <| v0 (S0.move rfl) rfl <| v0 (S0.cmp rfl rfl rfl) rfl <| v0 (S0.move rfl) rfl <| ?_
  first | refine csP (t := 10) rfl (fun h1 => ?_) (fun h1 => ?_) | refine csN (t := 10) rfl (fun h1 => ?_) (fun h1 => ?_) | refine cs (t := 10) rfl (fun h1 => ?_) (fun h1 => ?_)
  · refine gT rfl <| v0 (S0.move rfl) rfl <| gT rfl <| v0 (S0.move rfl) rfl <| gT rfl <| v0 (S0.cmp rfl rfl rfl) rfl <| v0 (S0.pickT rfl rfl) rfl <| v0 (S0.assign rfl) rfl <| vE <| WP.ret <| ?_
    refine r1 rfl rfl ⟨?_, rfl⟩
    simp [inI, h1]
  · refine gF rfl rfl <| gF rfl rfl <| gF rfl rfl <| v0 (S0.pickF rfl rfl) rfl <| v0 (S0.assign rfl) rfl <| vE <| WP.ret <| ?_
    refine r1 rfl rfl ⟨?_, rfl⟩
    simp [inI]; omega
theorem sorted_spec {v : Value} {l : List MkT} {row : List Blk} (hs : IsSl 63 2 v (l.flatMap enM) row) (hl : l.length ≤ 1000000) : FN Tryz.prog 124 [v] [row] (is (.bool (sortedM l)) [row]) := by
  obtain ⟨a, cap, rfl, hcap, hrow⟩ := IsSl.elems (k := 1) enM_len hs
  refine FN.intro 33 [(0, .slice a l.length cap)] Tryz.func124 rfl (enters Tryz.func124 (by kernel_rfl) rfl) Tryz.ntmps124 rfl rfl ?_
  refine WP.seq <| WP.region <| v0 (S0.assign rfl) rfl <| vE <| WP.seq <| WP.region <| v0 (S0.assign rfl) rfl <| vE <| WP.seq <| WP.seq <| WP.region <| v0 (S0.move rfl) rfl <| v0 (S0.lenSl rfl) rfl <| v0 (S0.move rfl) rfl <| vE <| WP.block <| ?_
  refine WP.loop (fun st : Nat × Int => st.1 ≤ l.length ∧ risM (-1) l = risM st.2 (l.drop st.1)) (fun st : Nat × Int => [(0, .slice a l.length cap), (3, .int .i64 st.2), (6, .slice a l.length cap), (7, .int .i64 (l.length : Int)), (8, .int .i64 (st.1 : Int))]) (fun st : Nat × Int => [row]) (fun st : Nat × Int => l.length - st.1) ((0, -1)) (⟨Nat.zero_le _, rfl⟩) ⟨rfl, rfl, rfl, rfl, rfl, trivial⟩ ⟨_, (take1 at0 take0)⟩ (fun st hinv => ?_)
  obtain ⟨k, last⟩ := st
  obtain ⟨hk, hr⟩ := hinv
  dsimp only at hk hr ⊢
  refine WP.seq <| WP.region <| v0 (S0.cmp rfl rfl rfl) rfl <| vE <| WP.seq <| ?_
  first | refine WP.condP rfl (fun h1 => ?_) (fun h1 => ?_) | refine WP.condN rfl (fun h1 => ?_) (fun h1 => ?_) | refine WP.cond rfl (fun h1 => ?_) (fun h1 => ?_)
  · have hlt : k < l.length := by omega
    rcases hrow with ⟨e, -⟩ | ⟨b1, sp1, rfl, rfl, hsp1⟩
    · rw [e] at hlt; simp at hlt
    have hx : l[k]? = some l[k] := by simp [hlt]
    have hd : l.drop k = l[k] :: l.drop (k + 1) := List.drop_eq_getElem_cons hlt
    generalize l[k] = x at hx hd
    rw [hd, risM] at hr
    refine WP.skip <| WP.seq <| WP.block <| WP.seq <| WP.region <| ?_
    refine v0 (S0.indexN (k := 2) rfl rfl hlt) rfl <| ?_
    refine v0 (S0.loadA rfl (flat_take enM_len sp1 l k x hx) rfl) rfl <| ?_
    refine vn (S1.alloc) rfl fun b5 => vs (S1.storeA rfl rfl rfl) <| vE <| WP.seq <| WP.seq <| WP.region <| v0 (S0.fieldAddr rfl) rfl <| v0 (S0.load rfl rfl) rfl <| v0 (S0.move rfl) rfl <| v0 (S0.cmp rfl rfl rfl) rfl <| v0 (S0.move rfl) rfl <| ?_
    first | refine csP (t := 16) rfl (fun h2 => ?_) (fun h2 => ?_) | refine csN (t := 16) rfl (fun h2 => ?_) (fun h2 => ?_) | refine cs (t := 16) rfl (fun h2 => ?_) (fun h2 => ?_)
    · have hb : badM last x = true := by simp [badM, h2]
      rw [hb] at hr
      refine gF rfl rfl <| gF rfl rfl <| gF rfl rfl <| v0 (S0.pickT rfl rfl) rfl <| v0 (S0.move rfl) rfl <| gF rfl rfl <| gF rfl rfl <| gF rfl rfl <| gF rfl rfl <| v0 (S0.pickT rfl rfl) rfl <| vE <| WP.condT rfl <| WP.seq <| WP.region <| v0 (S0.assign rfl) rfl <| vE <| WP.ret <| ?_
      refine Leaves.drop (take1 (atS at0) take0) ?_
      refine r1 rfl rfl ⟨?_, rfl⟩
      simp [sortedM, hr]
    · refine gT rfl <| v0 (S0.fieldAddr rfl) rfl <| gT rfl <| v0 (S0.load rfl rfl) rfl <| gT rfl <| v0 (S0.cmp rfl rfl rfl) rfl <| v0 (S0.pickF rfl rfl) rfl <| v0 (S0.move rfl) rfl <| ?_
      first | refine csP (t := 21) rfl (fun h3 => ?_) (fun h3 => ?_) | refine csN (t := 21) rfl (fun h3 => ?_) (fun h3 => ?_) | refine cs (t := 21) rfl (fun h3 => ?_) (fun h3 => ?_)
      · have hb : badM last x = true := by simp [badM, h3]
        rw [hb] at hr
        refine gF rfl rfl <| gF rfl rfl <| gF rfl rfl <| gF rfl rfl <| v0 (S0.pickT rfl rfl) rfl <| vE <| WP.condT rfl <| WP.seq <| WP.region <| v0 (S0.assign rfl) rfl <| vE <| WP.ret <| ?_
        refine Leaves.drop (take1 (atS at0) take0) ?_
        refine r1 rfl rfl ⟨?_, rfl⟩
        simp [sortedM, hr]
      · refine gT rfl <| v0 (S0.fieldAddr rfl) rfl <| gT rfl <| v0 (S0.load rfl rfl) rfl <| ?_
        refine gT rfl <| vcd (S1.callF rfl (withinI_spec x.2 1 1099511627776) take0) rfl ?_
        refine gT rfl <| v0 (S0.not rfl) rfl <| v0 (S0.pickF rfl rfl) rfl <| vE <| ?_
        first | refine WP.condP rfl (fun h4 => ?_) (fun h4 => ?_) | refine WP.condN rfl (fun h4 => ?_) (fun h4 => ?_) | refine WP.cond rfl (fun h4 => ?_) (fun h4 => ?_)
        · have hb : badM last x = true := by simp [badM, h4]
          rw [hb] at hr
          refine WP.seq <| WP.region <| v0 (S0.assign rfl) rfl <| vE <| WP.ret <| ?_
          refine Leaves.drop (take1 (atS at0) take0) ?_
          refine r1 rfl rfl ⟨?_, rfl⟩
          simp [sortedM, hr]
        · have hb : badM last x = false := by simp [badM] ; exact ⟨⟨by omega, by omega⟩, by simpa using h4⟩
          rw [hb] at hr
          refine WP.skip <| WP.region <| v0 (S0.fieldAddr rfl) rfl <| v0 (S0.load rfl rfl) rfl <| v0 (S0.assign rfl) rfl <| vE <| WP.region <| v0 (S0.ari rfl rfl rfl (wrap_i64 (by omega))) rfl <| v0 (S0.move rfl) rfl <| vE <| ?_
          exact ⟨(k + 1, x.1), (by first | exact ⟨hlt, by simpa using hr⟩ | (dsimp only; exact ⟨hlt, by simpa using hr⟩)), (show l.length - (k + 1) < l.length - k by omega), ⟨⟨rfl, rfl, rfl, rfl, rfl, trivial⟩, rfl, rfl⟩, ⟨_, (take1 (atS at0) take0)⟩⟩
  · have e : k = l.length := by omega
    rw [e, List.drop_length, risM] at hr
    refine WP.exit <| WP.seq <| WP.region <| v0 (S0.move rfl) rfl <| v0 (S0.lenSl rfl) rfl <| v0 (S0.cmp rfl rfl rfl) rfl <| v0 (S0.assign rfl) rfl <| vE <| WP.ret <| ?_
    refine r1 rfl rfl ⟨?_, rfl⟩
    rw [sortedM, hr]; congr 1; simp; omega
theorem marksT_le {l : List MkT} (hl : l.length ≤ 32) (k : Nat) : ((l.take k).flatMap fun m => putV m.1.toNat ++ putV m.2.toNat).length ≤ 18 * 32 := by
  have key : ∀ m : List MkT, (m.flatMap fun m => putV m.1.toNat ++ putV m.2.toNat).length ≤ 18 * m.length := by
    intro m
    induction m with
    | nil => simp
    | cons x m ih =>
      have h1 := putV_le x.1.toNat
      have h2 := putV_le x.2.toNat
      simp only [List.flatMap_cons, List.length_append, List.length_cons] at ih ⊢; omega
  have := key (l.take k)
  rw [List.length_take] at this; omega
theorem marks_spec {v : Value} {l : List MkT} {row : List Blk} (hs : IsSl 63 2 v (l.flatMap enM) row) (hl : l.length ≤ 1000000) : FN Tryz.prog 131 [v] [row] (is (sv (marksB l)) [row]) := by
  have hs0 := hs
  obtain ⟨a, cap, rfl, hcap, hrow⟩ := IsSl.elems (k := 1) enM_len hs
  refine FN.intro 32 [(0, .slice a l.length cap)] Tryz.func131 rfl (enters Tryz.func131 (by kernel_rfl) rfl) Tryz.ntmps131 rfl rfl ?_
  refine WP.seq <| WP.region <| v0 (S0.assign rfl) rfl <| vE <| WP.seq <| WP.seq <| WP.region <| v0 (S0.move rfl) rfl <| ?_
  refine vcd (S1.callF rfl (sorted_spec hs0 hl) (take1 at0 take0)) rfl ?_
  refine v0 (S0.not rfl) rfl <| vE <| ?_
  cases hso : sortedM l with
  | false =>
    refine WP.condTh rfl ((by simp)) ?_
    refine WP.seq <| WP.region <| v0 (S0.assign rfl) rfl <| vE <| WP.ret <| ?_
    refine r1 rfl rfl ⟨?_, rfl⟩
    simp [marksB, hso]
  | true =>
    have h32 : l.length ≤ 32 := by simp [sortedM] at hso; exact hso.2
    have hri : risM (-1) l = true := by simp [sortedM] at hso; exact hso.1
    have hmem := risM_mem (by omega) hri
    have hpl := putV_le l.length
    refine WP.condFh rfl ((by simp)) ?_
    refine WP.skip <| WP.seq <| WP.region <| v0 (S0.move rfl) rfl <| v0 (S0.lenSl rfl) rfl <| v0 (S0.convI rfl (wrap_u64 (by omega))) rfl <| ?_
    refine vcd (S1.callF rfl (put_spec (n := l.length) (by omega)) take0) rfl ?_
    rw [show putV l.length = putV l.length ++ (l.take 0).flatMap (fun m => putV m.1.toNat ++ putV m.2.toNat) by simp]
    refine v0 (S0.assign rfl) rfl <| vE <| WP.seq <| WP.seq <| WP.region <| v0 (S0.move rfl) rfl <| v0 (S0.lenSl rfl) rfl <| v0 (S0.move rfl) rfl <| vE <| WP.block <| ?_
    refine WP.loop (fun k : Nat => k ≤ l.length) (fun k : Nat => [(0, .slice a l.length cap), (3, sv (putV l.length ++ (l.take k).flatMap fun m => putV m.1.toNat ++ putV m.2.toNat)), (13, .slice a l.length cap), (14, .int .i64 (l.length : Int)), (15, .int .i64 (k : Int))]) (fun k : Nat => [row]) (fun k : Nat => l.length - k) (0) (Nat.zero_le _) ⟨rfl, rfl, rfl, rfl, rfl, trivial⟩ ⟨_, (take1 at0 take0)⟩ (fun k hinv => ?_)
    have hml := marksT_le h32 k
    refine WP.seq <| WP.region <| v0 (S0.cmp rfl rfl rfl) rfl <| vE <| WP.seq <| ?_
    first | refine WP.condP rfl (fun h1 => ?_) (fun h1 => ?_) | refine WP.condN rfl (fun h1 => ?_) (fun h1 => ?_) | refine WP.cond rfl (fun h1 => ?_) (fun h1 => ?_)
    · have hlt : k < l.length := by omega
      rcases hrow with ⟨e, -⟩ | ⟨b1, sp1, rfl, rfl, hsp1⟩
      · rw [e] at hlt; simp at hlt
      have hx : l[k]? = some l[k] := by simp [hlt]
      have hxm := hmem _ (List.getElem_mem hlt)
      generalize l[k] = x at hx hxm
      have hst : (l.take (k + 1)).flatMap (fun m => putV m.1.toNat ++ putV m.2.toNat) = (l.take k).flatMap (fun m => putV m.1.toNat ++ putV m.2.toNat) ++ (putV x.1.toNat ++ putV x.2.toNat) := by
        rw [List.take_add_one, hx]; simp
      have e1 : x.1 = ((x.1.toNat : Nat) : Int) := by omega
      have e2 : x.2 = ((x.2.toNat : Nat) : Int) := by omega
      have h1 := putV_le x.1.toNat
      have h2 := putV_le x.2.toNat
      refine WP.skip <| WP.seq <| WP.block <| WP.seq <| WP.region <| ?_
      refine v0 (S0.indexN (k := 2) rfl rfl hlt) rfl <| ?_
      refine v0 (S0.loadA (vs := [.int .i64 ((x.1.toNat : Nat) : Int), .int .i64 ((x.2.toNat : Nat) : Int)]) rfl (by rw [← e1, ← e2]; exact flat_take enM_len sp1 l k x hx) rfl) rfl <| ?_
      refine vn (S1.alloc) rfl fun b5 => vs (S1.storeA rfl rfl rfl) <| vE <| WP.drawP [(0, none), (1, none), (2, none), (3, none), (5, none), (6, none), (7, none), (4, none), (8, none), (9, none), (10, none), (11, none)] mixed (by kernel_rfl) (by kernel_rfl) (by kernel_rfl) (take1 at0 take0) <| w0 rfl rfl rfl (S0.move rfl) rfl <| w0 rfl rfl rfl (S0.fieldAddr rfl) rfl <| w0 rfl rfl rfl (S0.load rfl rfl) rfl <| w0 rfl rfl rfl (S0.convI rfl (wrap_u64 (by omega))) rfl <| w0 rfl rfl rfl (S0.fieldAddr rfl) rfl <| w0 rfl rfl rfl (S0.load rfl rfl) rfl <| w0 rfl rfl rfl (S0.convI rfl (wrap_u64 (by omega))) rfl <| ?_
      refine wcd rfl rfl rfl rfl (S1.callF rfl (put_spec (n := x.1.toNat) (by omega)) take0) rfl ?_
      refine wcd rfl rfl rfl rfl (S1.callF rfl (put_spec (n := x.2.toNat) (by omega)) take0) rfl ?_
      refine w0 rfl rfl rfl (S0.addS rfl rfl (by omega)) rfl <| ?_
      refine w0 rfl rfl rfl (S0.addS rfl rfl (by simp only [List.length_append]; omega)) rfl <| ?_
      refine w0 rfl rfl rfl (S0.assign rfl) rfl <| wE <| WP.region <| v0 (S0.ari rfl rfl rfl (wrap_i64 (by omega))) rfl <| v0 (S0.move rfl) rfl <| vE <| ?_
      rw [List.append_assoc, ← hst]
      exact ⟨k + 1, (by first | exact hlt | (dsimp only; exact hlt)), (show l.length - (k + 1) < l.length - k by omega), ⟨⟨rfl, rfl, rfl, rfl, rfl, trivial⟩, rfl, rfl⟩, ⟨_, (take1 (atS at0) take0)⟩⟩
    · have e : k = l.length := by omega
      rw [e, List.take_length]
      refine WP.exit <| WP.seq <| WP.region <| v0 (S0.move rfl) rfl <| v0 (S0.assign rfl) rfl <| vE <| WP.ret <| ?_
      refine r1 rfl rfl ⟨?_, rfl⟩
      simp [marksB, hso]
end Go.Proofs.YtjpjebfodhbdfaaGreatDoor
namespace Go.Proofs.YtjpjebfodhbdfaaGreatDoor
open Go
abbrev rdC (bs bt be : Nat) (s : Str) (a : Nat) (bad : Int) : List Blk := [(bs, cel [sv s] 9), (bt, cel [.int .i64 (a : Int)] 3), (be, cel [.int .i64 bad] 33)]
abbrev ptrB (b : Nat) : Value := .pointer (some ⟨b, 0, none⟩)
theorem reader_spec (s : Str) (a : Nat) : FN Tryz.prog 123 [sv s, .int .i64 (a : Int)] [] (fun v h => ∃ bs bt be, v = .tuple ⟨[.func (.func 146) ⟨[]⟩ ⟨[ptrB bs, ptrB bt, ptrB be]⟩, .func (.func 147) ⟨[]⟩ ⟨[ptrB bs, ptrB bt, ptrB be]⟩, .func (.func 148) ⟨[]⟩ ⟨[ptrB bt, ptrB be]⟩]⟩ ∧ h = [rdC bs bt be s a 0]) := by
  refine FN.intro 15 [(0, sv s), (1, .int .i64 (a : Int))] Tryz.func123 rfl (enters Tryz.func123 (by kernel_rfl) rfl) Tryz.ntmps123 rfl rfl ?_
  refine WP.seq <| WP.region <| vn (S1.box rfl rfl) rfl fun b2 => vn (S1.box rfl rfl) rfl fun b3 => v0 (S0.assign rfl) rfl <| v0 (S0.assign rfl) rfl <| v0 (S0.assign rfl) rfl <| vE <| WP.seq <| WP.region <| vn (S1.alloc) rfl fun b7 => vE <| WP.seq <| WP.region <| v0 (S0.makeFunc rfl rfl) rfl <| v0 (S0.assign rfl) rfl <| vE <| WP.seq <| WP.region <| v0 (S0.makeFunc rfl rfl) rfl <| v0 (S0.assign rfl) rfl <| vE <| WP.seq <| WP.region <| v0 (S0.move rfl) rfl <| v0 (S0.move rfl) rfl <| v0 (S0.makeFunc rfl rfl) rfl <| v0 (S0.assign rfl) rfl <| v0 (S0.assign rfl) rfl <| v0 (S0.assign rfl) rfl <| vE <| WP.ret <| ?_
  refine Leaves.drop (h' := [rdC b2 b3 b7 s a 0]) (k := []) (pm fun a_ => by (try simp only [List.flatten_append, List.flatten_cons, List.flatten_nil, List.append_nil, List.cons_append, List.nil_append, List.append_assoc, nOf_app, nOf_cons, nOf_nil, Nat.add_zero, Nat.zero_add, List.map_append, List.map_cons, List.map_nil, cel, sv, rdC]); first | done | omega) ?_
  refine r3 rfl rfl rfl rfl ?_
  exact ⟨b2, b3, b7, rfl, rfl⟩
def rdN (s : Str) (a : Nat) (bad : Int) : Int × Nat × Int :=
  if bad ≠ 0 then (-1, a, bad) else if (getV s a).2.2 ≠ 0 then (-1, a, (getV s a).2.2) else (if 1099511627777 < (getV s a).1 then 1099511627777 else (getV s a).1, (getV s a).2.1.toNat, 0)
theorem num_spec {bs bt be : Nat} {s : Str} {a : Nat} {bad : Int} (hs : s.length ≤ 1000000) (ha : a ≤ 1000000) : FN Tryz.prog 146 [ptrB bs, ptrB bt, ptrB be] [rdC bs bt be s a bad] (fun v h => v = .int .i64 (rdN s a bad).1 ∧ h = [rdC bs bt be s (rdN s a bad).2.1 (rdN s a bad).2.2]) := by
  refine FN.intro 25 [(0, ptrB bs), (1, ptrB bt), (2, ptrB be)] Tryz.func146 rfl (enters Tryz.func146 (by kernel_rfl) rfl) Tryz.ntmps146 rfl rfl ?_
  refine WP.seq <| WP.region <| v0 (S0.assign rfl) rfl <| vE <| WP.seq <| WP.region <| v0 (S0.load rfl rfl) rfl <| v0 (S0.load rfl rfl) rfl <| ?_
  refine vcd (S1.callF rfl (get_spec hs ha) take0) rfl ?_
  refine v0 (S0.move rfl) rfl <| v0 (S0.extract rfl rfl) rfl <| v0 (S0.extract rfl rfl) rfl <| v0 (S0.extract rfl rfl) rfl <| v0 (S0.assign rfl) rfl <| v0 (S0.assign rfl) rfl <| v0 (S0.assign rfl) rfl <| vE <| WP.seq <| WP.block <| WP.seq <| WP.region <| v0 (S0.load rfl rfl) rfl <| v0 (S0.cmp rfl rfl rfl) rfl <| v0 (S0.assign rfl) rfl <| vE <| ?_
  first | refine WP.condP rfl (fun h1 => ?_) (fun h1 => ?_) | refine WP.condN rfl (fun h1 => ?_) (fun h1 => ?_) | refine WP.cond rfl (fun h1 => ?_) (fun h1 => ?_)
  · refine WP.seq <| WP.region <| v0 (S0.assign rfl) rfl <| vE <| WP.ret <| ?_
    refine r1 rfl rfl ?_
    rw [rdN, if_pos h1]; exact ⟨rfl, rfl⟩
  · have h1' : ¬ bad ≠ 0 := by simpa using h1
    refine WP.seq <| WP.region <| v0 (S0.move rfl) rfl <| v0 (S0.cmp rfl rfl rfl) rfl <| v0 (S0.assign rfl) rfl <| vE <| ?_
    first | refine WP.condP rfl (fun h2 => ?_) (fun h2 => ?_) | refine WP.condN rfl (fun h2 => ?_) (fun h2 => ?_) | refine WP.cond rfl (fun h2 => ?_) (fun h2 => ?_)
    · refine WP.seq <| WP.region <| v0 (S0.move rfl) rfl <| vs (S1.store rfl rfl (by first | rfl | exact IsSl.cv (by assumption))) <| vE <| WP.seq <| WP.region <| v0 (S0.assign rfl) rfl <| vE <| WP.ret <| ?_
      refine r1 rfl rfl ?_
      rw [rdN, if_neg h1', if_pos h2]; exact ⟨rfl, rfl⟩
    · have h2' : ¬ (getV s a).2.2 ≠ 0 := by simpa using h2
      obtain ⟨n, k, hg, hn, hk, hak, -⟩ := getV_ok (by omega : (getV s a).2.2 = 0)
      have q1 : (getV s a).1 = (n : Int) := by rw [hg]
      have q2 : (getV s a).2.1 = ((a + k : Nat) : Int) := by rw [hg]
      have hb0 : bad = 0 := by omega
      subst hb0
      rw [rdN, if_neg h1', if_neg h2', q1, q2, Int.toNat_natCast]
      refine WP.skip <| WP.seq <| WP.region <| v0 (S0.move rfl) rfl <| vs (S1.store rfl rfl (by first | rfl | exact IsSl.cv (by assumption))) <| vE <| WP.seq <| WP.region <| v0 (S0.move rfl) rfl <| v0 (S0.min2 rfl rfl rfl) rfl <| v0 (S0.convI rfl (wrap_i64 (by omega))) rfl <| v0 (S0.assign rfl) rfl <| vE <| WP.ret <| ?_
      refine r1 rfl rfl ?_
      exact ⟨rfl, rfl⟩
def rdT (s : Str) (a : Nat) (bad : Int) : Str × Nat × Int :=
  if bad ≠ 0 then ([], a, bad) else if (cutV s a).2.2 ≠ 0 then ([], a, (cutV s a).2.2) else ((cutV s a).1, (cutV s a).2.1.toNat, 0)
theorem cutV_ok {s : Str} {a : Nat} (h : (cutV s a).2.2 = 0) : ∃ n k : Nat, getV s a = ((n : Int), ((a + k : Nat) : Int), 0) ∧ n ≤ 65536 ∧ 1 ≤ k ∧ a + k + n ≤ s.length ∧ cutV s a = ((s.drop (a + k)).take n, ((a + k + n : Nat) : Int), 0) ∧ (s.drop a).take k = putV n := by
  unfold cutV at h ⊢
  by_cases h1 : (getV s a).2.2 ≠ 0
  · rw [if_pos h1] at h; exact absurd h h1
  · rw [if_neg h1] at h ⊢
    obtain ⟨n, k, hg, hn, hk, hak, hp⟩ := getV_ok (by omega : (getV s a).2.2 = 0)
    rw [hg] at h ⊢
    dsimp only at h ⊢
    by_cases h2 : 65536 < (n : Int)
    · rw [if_pos h2] at h; cases h
    · rw [if_neg h2] at h ⊢
      by_cases h3 : (s.length : Int) - ((a + k : Nat) : Int) < (n : Int)
      · rw [if_pos h3] at h; cases h
      · rw [if_neg h3]
        refine ⟨n, k, rfl, by omega, hk, by omega, ?_, hp⟩
        rw [Int.toNat_natCast, Int.toNat_natCast]; rfl
theorem text2_spec {bs bt be : Nat} {s : Str} {a : Nat} {bad : Int} (hs : s.length ≤ 1000000) (ha : a ≤ 1000000) : FN Tryz.prog 147 [ptrB bs, ptrB bt, ptrB be] [rdC bs bt be s a bad] (fun v h => v = sv (rdT s a bad).1 ∧ h = [rdC bs bt be s (rdT s a bad).2.1 (rdT s a bad).2.2]) := by
  refine FN.intro 23 [(0, ptrB bs), (1, ptrB bt), (2, ptrB be)] Tryz.func147 rfl (enters Tryz.func147 (by kernel_rfl) rfl) Tryz.ntmps147 rfl rfl ?_
  refine WP.seq <| WP.region <| v0 (S0.assign rfl) rfl <| vE <| WP.seq <| WP.region <| v0 (S0.load rfl rfl) rfl <| v0 (S0.load rfl rfl) rfl <| ?_
  refine vcd (S1.callF rfl (cut_spec0 hs ha) take0) rfl ?_
  refine v0 (S0.move rfl) rfl <| v0 (S0.extract rfl rfl) rfl <| v0 (S0.extract rfl rfl) rfl <| v0 (S0.extract rfl rfl) rfl <| v0 (S0.assign rfl) rfl <| v0 (S0.assign rfl) rfl <| v0 (S0.assign rfl) rfl <| vE <| WP.seq <| WP.block <| WP.seq <| WP.region <| v0 (S0.load rfl rfl) rfl <| v0 (S0.cmp rfl rfl rfl) rfl <| v0 (S0.assign rfl) rfl <| vE <| ?_
  first | refine WP.condP rfl (fun h1 => ?_) (fun h1 => ?_) | refine WP.condN rfl (fun h1 => ?_) (fun h1 => ?_) | refine WP.cond rfl (fun h1 => ?_) (fun h1 => ?_)
  · refine WP.seq <| WP.region <| v0 (S0.assign rfl) rfl <| vE <| WP.ret <| ?_
    refine r1 rfl rfl ?_
    rw [rdT, if_pos h1]; exact ⟨rfl, rfl⟩
  · have h1' : ¬ bad ≠ 0 := by simpa using h1
    refine WP.seq <| WP.region <| v0 (S0.move rfl) rfl <| v0 (S0.cmp rfl rfl rfl) rfl <| v0 (S0.assign rfl) rfl <| vE <| ?_
    first | refine WP.condP rfl (fun h2 => ?_) (fun h2 => ?_) | refine WP.condN rfl (fun h2 => ?_) (fun h2 => ?_) | refine WP.cond rfl (fun h2 => ?_) (fun h2 => ?_)
    · refine WP.seq <| WP.region <| v0 (S0.move rfl) rfl <| vs (S1.store rfl rfl (by first | rfl | exact IsSl.cv (by assumption))) <| vE <| WP.seq <| WP.region <| v0 (S0.assign rfl) rfl <| vE <| WP.ret <| ?_
      refine r1 rfl rfl ?_
      rw [rdT, if_neg h1', if_pos h2]; exact ⟨rfl, rfl⟩
    · have h2' : ¬ (cutV s a).2.2 ≠ 0 := by simpa using h2
      obtain ⟨n, k, -, -, -, -, hg, -⟩ := cutV_ok (by omega : (cutV s a).2.2 = 0)
      have q2 : (cutV s a).2.1 = ((a + k + n : Nat) : Int) := by rw [hg]
      have hb0 : bad = 0 := by omega
      subst hb0
      rw [rdT, if_neg h1', if_neg h2', q2, Int.toNat_natCast]
      refine WP.skip <| WP.seq <| WP.region <| v0 (S0.move rfl) rfl <| vs (S1.store rfl rfl (by first | rfl | exact IsSl.cv (by assumption))) <| vE <| WP.seq <| WP.region <| v0 (S0.move rfl) rfl <| v0 (S0.assign rfl) rfl <| vE <| WP.ret <| ?_
      refine r1 rfl rfl ?_
      exact ⟨rfl, rfl⟩
theorem end_spec {bs bt be : Nat} {s : Str} {a : Nat} {bad : Int} : FN Tryz.prog 148 [ptrB bt, ptrB be] [rdC bs bt be s a bad] (fun v h => v = .tuple ⟨[.int .i64 (a : Int), .int .i64 bad]⟩ ∧ h = [rdC bs bt be s a bad]) := by
  refine FN.intro 6 [(0, ptrB bt), (1, ptrB be)] Tryz.func148 rfl (enters Tryz.func148 (by kernel_rfl) rfl) Tryz.ntmps148 rfl rfl ?_
  refine WP.seq <| WP.region <| v0 (S0.assign rfl) rfl <| v0 (S0.assign rfl) rfl <| vE <| WP.seq <| WP.drawP [(0, none), (1, none), (2, none), (3, none)] mixed (by kernel_rfl) (by kernel_rfl) (by kernel_rfl) (take1 at0 take0) <| w0 rfl rfl rfl (S0.load rfl rfl) rfl <| w0 rfl rfl rfl (S0.load rfl rfl) rfl <| w0 rfl rfl rfl (S0.assign rfl) rfl <| w0 rfl rfl rfl (S0.assign rfl) rfl <| wE <| WP.ret <| ?_
  refine r2 rfl rfl rfl ?_
  exact ⟨rfl, rfl⟩
end Go.Proofs.YtjpjebfodhbdfaaGreatDoor
namespace Go.Proofs.YtjpjebfodhbdfaaGreatDoor
open Go
theorem rdN_le {s : Str} {a : Nat} {bad : Int} (ha : a ≤ s.length) : (rdN s a bad).2.1 ≤ s.length := by
  unfold rdN
  by_cases h1 : bad ≠ 0
  · rw [if_pos h1]; exact ha
  · rw [if_neg h1]
    by_cases h2 : (getV s a).2.2 ≠ 0
    · rw [if_pos h2]; exact ha
    · rw [if_neg h2]
      obtain ⟨n, k, hg, -, -, hak, -⟩ := getV_ok (by omega : (getV s a).2.2 = 0)
      rw [hg]; simp only [Int.toNat_natCast]; exact hak
def rdM (s : Str) (a : Nat) (bad : Int) : Nat → List MkT × Nat × Int
  | 0 => ([], a, bad)
  | k + 1 =>
    let z := rdM s a bad k
    let x := rdN s z.2.1 z.2.2
    let y := rdN s x.2.1 x.2.2
    (z.1 ++ [(x.1, y.1)], y.2.1, y.2.2)
theorem rdM_le {s : Str} {a : Nat} {bad : Int} (ha : a ≤ s.length) : ∀ k, (rdM s a bad k).2.1 ≤ s.length
  | 0 => ha
  | k + 1 => rdN_le (rdN_le (rdM_le ha k))
theorem rdM_len (s : Str) (a : Nat) (bad : Int) : ∀ k, (rdM s a bad k).1.length = k
  | 0 => rfl
  | k + 1 => by simp [rdM, rdM_len s a bad k]
def cutM (s : Str) (a : Nat) : List MkT × Int × Int :=
  let n := rdN s a 0
  if 32 < n.1 then ([], 0, 2)
  else
    let z := rdM s n.2.1 n.2.2 n.1.toNat
    if z.2.2 ≠ 0 then ([], 0, z.2.2) else if sortedM z.1 = false then ([], 0, 4) else (z.1, (z.2.1 : Int), 0)
theorem mcut_spec {s : Str} {a : Nat} (hs : s.length ≤ 1000000) (ha : a ≤ s.length) : FN Tryz.prog 83 [sv s, .int .i64 (a : Int)] [] (fun u h => ∃ v row, u = .tuple ⟨[v, .int .i64 (cutM s a).2.1, .int .i64 (cutM s a).2.2]⟩ ∧ IsSl 63 2 v ((cutM s a).1.flatMap enM) row ∧ h = [row]) := by
  have hn := rdN_le (bad := 0) ha
  have hc : cutM s a = if 32 < (rdN s a 0).1 then ([], 0, 2) else if (rdM s (rdN s a 0).2.1 (rdN s a 0).2.2 (rdN s a 0).1.toNat).2.2 ≠ 0 then ([], 0, (rdM s (rdN s a 0).2.1 (rdN s a 0).2.2 (rdN s a 0).1.toNat).2.2) else if sortedM (rdM s (rdN s a 0).2.1 (rdN s a 0).2.2 (rdN s a 0).1.toNat).1 = false then ([], 0, 4) else ((rdM s (rdN s a 0).2.1 (rdN s a 0).2.2 (rdN s a 0).1.toNat).1, ((rdM s (rdN s a 0).2.1 (rdN s a 0).2.2 (rdN s a 0).1.toNat).2.1 : Int), 0) := rfl
  refine FN.intro 52 [(0, sv s), (1, .int .i64 (a : Int))] Tryz.func83 rfl (enters Tryz.func83 (by kernel_rfl) rfl) Tryz.ntmps83 rfl rfl ?_
  refine WP.seq <| WP.region <| v0 (S0.assign rfl) rfl <| v0 (S0.assign rfl) rfl <| v0 (S0.assign rfl) rfl <| vE <| WP.seq <| WP.region <| v0 (S0.move rfl) rfl <| v0 (S0.move rfl) rfl <| ?_
  refine vc (S1.callF rfl (reader_spec s a) take0) rfl ?_
  rintro _ _ ⟨bs, bt, be, rfl, rfl⟩
  refine app ?_
  refine v0 (S0.move rfl) rfl <| v0 (S0.extract rfl rfl) rfl <| v0 (S0.extract rfl rfl) rfl <| v0 (S0.extract rfl rfl) rfl <| v0 (S0.assign rfl) rfl <| v0 (S0.assign rfl) rfl <| v0 (S0.assign rfl) rfl <| vE <| WP.seq <| WP.region <| v0 (S0.move rfl) rfl <| ?_
  refine vc (S1.callC rfl rfl rfl (num_spec hs (by omega)) (take1 at0 take0)) rfl ?_
  rintro _ _ ⟨rfl, rfl⟩
  refine app ?_
  generalize (rdN s a 0).1 = N at hc
  generalize (rdN s a 0).2.1 = P at hc hn
  generalize (rdN s a 0).2.2 = B at hc
  refine v0 (S0.assign rfl) rfl <| vE <| WP.seq <| WP.seq <| WP.region <| v0 (S0.move rfl) rfl <| v0 (S0.cmp rfl rfl rfl) rfl <| vE <| ?_
  first | refine WP.condP rfl (fun h1 => ?_) (fun h1 => ?_) | refine WP.condN rfl (fun h1 => ?_) (fun h1 => ?_) | refine WP.cond rfl (fun h1 => ?_) (fun h1 => ?_)
  · rw [if_pos h1] at hc
    refine WP.seq <| WP.region <| v0 (S0.assign rfl) rfl <| v0 (S0.assign rfl) rfl <| v0 (S0.assign rfl) rfl <| vE <| WP.ret <| ?_
    refine Leaves.drop (h' := [[]]) (k := [rdC bs bt be s P B]) (by simp) ?_
    refine r3 rfl rfl rfl rfl ?_
    exact ⟨_, [], by rw [hc], by rw [hc]; exact IsSl.nil, rfl⟩
  · rw [if_neg h1] at hc
    have hle := fun k => rdM_le (bad := B) hn k
    have hln := rdM_len s P B
    refine WP.perm (h' := [[], rdC bs bt be s P B]) (k := []) (by simp) ?_
    refine WP.skip <| WP.seq <| WP.region <| v0 (S0.assign rfl) rfl <| vE <| WP.seq <| WP.seq <| WP.region <| v0 (S0.move rfl) rfl <| v0 (S0.move rfl) rfl <| vE <| WP.block <| ?_
    refine WP.loop (fun st : Nat × Value × List Blk => (st.1 : Int) ≤ max N 0 ∧ IsSl 63 2 st.2.1 ((rdM s P B st.1).1.flatMap enM) st.2.2) (fun st : Nat × Value × List Blk => [(7, .func (.func 146) ⟨[]⟩ ⟨[ptrB bs, ptrB bt, ptrB be]⟩), (9, .func (.func 148) ⟨[]⟩ ⟨[ptrB bt, ptrB be]⟩), (11, st.2.1), (25, .int .i64 N), (26, .int .i64 (st.1 : Int))]) (fun st : Nat × Value × List Blk => [st.2.2, rdC bs bt be s (rdM s P B st.1).2.1 (rdM s P B st.1).2.2]) (fun st : Nat × Value × List Blk => N.toNat - st.1) ((0, .slice none 0 0, [])) (⟨by omega, IsSl.nil⟩) ⟨rfl, rfl, rfl, rfl, rfl, trivial⟩ ⟨_, (take1 at0 (take1 at0 take0))⟩ (fun st hinv => ?_)
    obtain ⟨i, ov, orow⟩ := st
    obtain ⟨hi, hos⟩ := hinv
    dsimp only at hi hos ⊢
    have hlen := hln i
    have hpos := hle i
    refine WP.seq <| WP.region <| v0 (S0.cmp rfl rfl rfl) rfl <| vE <| WP.seq <| ?_
    first | refine WP.condP rfl (fun h2 => ?_) (fun h2 => ?_) | refine WP.condN rfl (fun h2 => ?_) (fun h2 => ?_) | refine WP.cond rfl (fun h2 => ?_) (fun h2 => ?_)
    · refine WP.skip <| WP.seq <| WP.block <| WP.region <| v0 (S0.move rfl) rfl <| v0 (S0.move rfl) rfl <| ?_
      refine vc (S1.callC rfl rfl rfl (num_spec hs (by omega)) (take1 (atS at0) take0)) rfl ?_
      rintro _ _ ⟨rfl, rfl⟩
      refine app ?_
      refine v0 (S0.move rfl) rfl <| ?_
      refine vc (S1.callC rfl rfl rfl (num_spec hs (by have := rdN_le (bad := (rdM s P B i).2.2) hpos; omega)) (take1 at0 take0)) rfl ?_
      rintro _ _ ⟨rfl, rfl⟩
      refine app ?_
      refine v0 (S0.build rfl (qs := [(0, _), (1, _)]) rfl) rfl <| vnv (S1.buildSlice rfl (qs := [(0, _)]) rfl rfl) rfl fun b34 => ?_
      refine ve (S1.appendL rfl hos rfl rfl (atS (atS at0)) rfl rfl (by rw [flat_len enM_len, hlen]; simp; omega)) rfl ?_
      rintro v2 _ ⟨row2, hs2, rfl⟩
      refine v0 (S0.assign rfl) rfl <| vE <| WP.region <| v0 (S0.ari rfl rfl rfl (wrap_i64 (by omega))) rfl <| v0 (S0.move rfl) rfl <| vE <| ?_
      exact ⟨(i + 1, v2, row2), (by first | exact ⟨by omega, by simpa [rdM] using hs2⟩ | (dsimp only; exact ⟨by omega, by simpa [rdM] using hs2⟩)), (show N.toNat - (i + 1) < N.toNat - i by omega), ⟨⟨rfl, rfl, rfl, rfl, rfl, trivial⟩, rfl, rfl⟩, ⟨_, (take1 at0 (take1 (atS at0) take0))⟩⟩
    · have ei : i = N.toNat := by omega
      subst ei
      refine WP.exit <| WP.seq <| WP.region <| v0 (S0.move rfl) rfl <| ?_
      refine vc (S1.callC rfl rfl rfl (end_spec (s := s) (bs := bs)) (take1 (atS at0) take0)) rfl ?_
      rintro _ _ ⟨rfl, rfl⟩
      refine app ?_
      generalize rdM s P B N.toNat = Z at hc hos hlen hpos
      refine v0 (S0.move rfl) rfl <| v0 (S0.extract rfl rfl) rfl <| v0 (S0.extract rfl rfl) rfl <| v0 (S0.assign rfl) rfl <| v0 (S0.assign rfl) rfl <| vE <| WP.seq <| WP.block <| WP.seq <| WP.region <| v0 (S0.move rfl) rfl <| v0 (S0.cmp rfl rfl rfl) rfl <| v0 (S0.assign rfl) rfl <| vE <| ?_
      first | refine WP.condP rfl (fun h3 => ?_) (fun h3 => ?_) | refine WP.condN rfl (fun h3 => ?_) (fun h3 => ?_) | refine WP.cond rfl (fun h3 => ?_) (fun h3 => ?_)
      · rw [if_pos h3] at hc
        refine WP.seq <| WP.region <| v0 (S0.move rfl) rfl <| v0 (S0.assign rfl) rfl <| v0 (S0.assign rfl) rfl <| v0 (S0.assign rfl) rfl <| vE <| WP.ret <| ?_
        refine Leaves.drop (h' := [[]]) (k := [rdC bs bt be s Z.2.1 Z.2.2, orow]) (by simp) ?_
        refine r3 rfl rfl rfl rfl ?_
        exact ⟨_, [], by rw [hc], by rw [hc]; exact IsSl.nil, rfl⟩
      · rw [if_neg (by omega)] at hc
        refine WP.seq <| WP.region <| v0 (S0.move rfl) rfl <| ?_
        refine vcd (S1.callF rfl (sorted_spec hos (by omega)) (take1 (atS at0) take0)) rfl ?_
        refine v0 (S0.not rfl) rfl <| v0 (S0.assign rfl) rfl <| vE <| ?_
        cases hso : sortedM Z.1 with
        | false =>
          rw [if_pos hso] at hc
          refine WP.condTh rfl ((by simp)) ?_
          refine WP.seq <| WP.region <| v0 (S0.assign rfl) rfl <| v0 (S0.assign rfl) rfl <| v0 (S0.assign rfl) rfl <| vE <| WP.ret <| ?_
          refine Leaves.drop (h' := [[]]) (k := [orow, rdC bs bt be s Z.2.1 Z.2.2]) (by simp) ?_
          refine r3 rfl rfl rfl rfl ?_
          exact ⟨_, [], by rw [hc], by rw [hc]; exact IsSl.nil, rfl⟩
        | true =>
          rw [if_neg (by simp [hso])] at hc
          refine WP.condFh rfl ((by simp)) ?_
          refine WP.skip <| WP.seq <| WP.region <| v0 (S0.move rfl) rfl <| v0 (S0.move rfl) rfl <| v0 (S0.assign rfl) rfl <| v0 (S0.assign rfl) rfl <| v0 (S0.assign rfl) rfl <| vE <| WP.ret <| ?_
          refine Leaves.drop (take1 at0 take0) ?_
          refine r3 rfl rfl rfl rfl ?_
          exact ⟨_, orow, by rw [hc], by rw [hc]; exact hos, rfl⟩
end Go.Proofs.YtjpjebfodhbdfaaGreatDoor
namespace Go.Proofs.YtjpjebfodhbdfaaGreatDoor
open Go
abbrev ev0 : Ev := ⟨0, 0, [], [], 0⟩
def putE (e : Ev) : Str := if rightE e = true then putV e.o.toNat ++ putV e.s.toNat ++ putV e.e.toNat ++ textB e.t ++ textB e.l else []
def getE (s : Str) (a : Nat) : Ev × Int × Int :=
  let x := rdN s a 0
  let y := rdN s x.2.1 x.2.2
  let z := rdN s y.2.1 y.2.2
  let t := rdT s z.2.1 z.2.2
  let l := rdT s t.2.1 t.2.2
  if l.2.2 ≠ 0 then (ev0, 0, l.2.2) else if rightE ⟨x.1, y.1, t.1, l.1, z.1⟩ = false then (ev0, 0, 4) else (⟨x.1, y.1, t.1, l.1, z.1⟩, (l.2.1 : Int), 0)
def ageE (e : Ev) (n : Int) : Ev := if n ≤ 0 then e else if e.e ≤ n then { e with e := 0 } else { e with e := e.e - n }
theorem ageE_prog (e : Ev) (n : Int) : ageE e n = if 0 < n then { e with e := max 0 e.e - min (max 0 e.e) n } else e := by
  unfold ageE
  by_cases h : n ≤ 0
  · rw [if_pos h, if_neg (show ¬ 0 < n by omega)]
  · rw [if_neg h, if_pos (show 0 < n by omega)]
    by_cases h2 : e.e ≤ n
    · rw [if_pos h2]
      have : max 0 e.e - min (max 0 e.e) n = 0 := by omega
      rw [this]
    · rw [if_neg h2]
      have : max 0 e.e - min (max 0 e.e) n = e.e - n := by omega
      rw [this]
end Go.Proofs.YtjpjebfodhbdfaaGreatDoor
namespace Go.Proofs.YtjpjebfodhbdfaaGreatDoor
open Go
structure Ct where
  L : List (Nat × Ev)
  M : List MkT
  n : Nat
def seqK (b : Ct) (o : Int) : Int := (mkO b.M o).getD 0
def whyK (b : Ct) (e : Ev) : Int :=
  if rightE e = false ∨ e.e < 1 then 1
  else if e.s ≤ seqK b e.o then 11
  else if 64 ≤ b.L.length ∨ ((mkO b.M e.o).isNone = true ∧ 32 ≤ b.M.length) then 7 else 0
def addK (b : Ct) (e : Ev) : Ct := ⟨b.L ++ [(b.n + 1, e)], setMk b.M (e.o, e.s), b.n + 1⟩
def ageL (L : List (Nat × Ev)) (n : Int) : List (Nat × Ev) := (L.map fun x => (x.1, ageE x.2 n)).filter fun x => decide (0 < x.2.e)
def ageK (b : Ct) (n : Int) : Ct := ⟨ageL b.L n, b.M, b.n⟩
abbrev entB (x : Nat × Ev) : Str := putV x.1 ++ putE x.2
def bytesK (b : Ct) : Str := (putV b.n ++ marksB b.M ++ putV b.L.length) ++ b.L.flatMap entB
def noteK (b : Ct) (G : Lg) (D : Dk) (s : Str) : Lg × Dk :=
  if 40 ≤ G.l.length then (appendLg (checkLg G D (bytesK b)).2.1 (checkLg G D (bytesK b)).2.2 s).2 else (appendLg G D s).2
def putR (e : Ev) : Str := 80 :: putE e
def tickR (n : Int) : Str := 84 :: putV n.toNat
def putBk (b : Ct) (G : Lg) (D : Dk) (e : Ev) : Int × Ct × Lg × Dk :=
  if whyK b e ≠ 0 then (whyK b e, b, G, D) else (0, addK b e, noteK b G D (putR e))
def tickBk (b : Ct) (G : Lg) (D : Dk) (n : Int) : Int × Ct × Lg × Dk :=
  if n < 1 ∨ 1000 < n then (1, b, G, D) else (0, ageK b n, noteK b G D (tickR n))
def numK (s : Str) (a : Nat) : Option (Nat × Nat) := if (getV s a).2.2 = 0 ∧ (getV s a).1 ≤ 1099511627776 then some ((getV s a).1.toNat, (getV s a).2.1.toNat) else none
def readL (s : Str) (M : List MkT) (top : Nat) : Nat → List (Nat × Ev) → Nat → Nat → Option (List (Nat × Ev) × Nat)
  | 0, L, _, a => some (L, a)
  | k + 1, L, last, a => match numK s a with
    | none => none
    | some (p, to) =>
      if (getE s to).2.2 = 0 ∧ last < p ∧ p ≤ top ∧ 0 < (getE s to).1.e ∧ (getE s to).1.s ≤ (mkO M (getE s to).1.o).getD 0
      then readL s M top k (L ++ [(p, (getE s to).1)]) p (getE s to).2.1.toNat else none
def readE (s : Str) (n : Nat) (M : List MkT) (a : Nat) : Option Ct :=
  match numK s a with
  | none => none
  | some (many, b) => if many ≤ 64 then (match readL s M n many [] 0 b with
    | none => none
    | some (L, e) => if e = s.length then some ⟨L, M, n⟩ else none) else none
def readK (s : Str) : Option Ct :=
  match numK s 0 with
  | none => none
  | some (n, a) => if (cutM s a).2.2 = 0 then readE s n (cutM s a).1 (cutM s a).2.1.toNat else none
def redoK (b : Ct) (s : Str) : Option Ct :=
  match s with
  | [] => none
  | c :: _ =>
    if c = 80 then (if (getE s 1).2.2 = 0 ∧ (getE s 1).2.1 = (s.length : Int) ∧ whyK b (getE s 1).1 = 0 then some (addK b (getE s 1).1) else none)
    else if c = 84 then (match numK s 1 with
      | none => none
      | some (n, to) => if to = s.length ∧ 1 ≤ n ∧ n ≤ 1000 then some (ageK b (n : Int)) else none)
    else none
def redosK : List Str → Ct → Option Ct
  | [], b => some b
  | s :: l, b => match redoK b s with
    | none => none
    | some b' => redosK l b'
def bookOf (st : Str) (l : List Str) : Option Ct :=
  match (if st = [] then some ⟨[], [], 0⟩ else readK st) with
  | none => none
  | some b => redosK l b
def openBk (D : Dk) : Int × Option (Ct × Lg) × Dk :=
  if (openLg D).1 ≠ 0 then ((openLg D).1, none, D)
  else match bookOf (openLg D).2.1.st (openLg D).2.1.l with
    | none => (4, none, (openLg D).2.2)
    | some b => (0, some (b, (openLg D).2.1), (openLg D).2.2)
def afterK (b : Ct) (p : Int) : Option (Nat × Ev) := b.L.find? fun x => decide (p < (x.1 : Int))
def hadL (l : List MkT) (o : Int) : Int := l.foldl (fun a m => if m.1 = o then m.2 else a) 0
def missK (b : Ct) (l : List MkT) : List Ev := (b.L.map (·.2)).filter fun e => decide (hadL l e.o < e.s)
end Go.Proofs.YtjpjebfodhbdfaaGreatDoor
namespace Go.Proofs.YtjpjebfodhbdfaaGreatDoor
open Go
theorem cutV_le {s : Str} {a : Nat} (h : (cutV s a).2.2 = 0) : (cutV s a).2.1.toNat ≤ s.length ∧ (cutV s a).1.length ≤ s.length ∧ (cutV s a).2.1 = ((cutV s a).2.1.toNat : Int) := by
  obtain ⟨n, k, -, -, -, h1, h2, -⟩ := cutV_ok h
  rw [h2]
  dsimp only
  exact ⟨by rw [Int.toNat_natCast]; exact h1, by rw [List.length_take, List.length_drop]; omega, by rw [Int.toNat_natCast]⟩
theorem cutM_le {s : Str} {a : Nat} (ha : a ≤ s.length) (h : (cutM s a).2.2 = 0) : (cutM s a).2.1.toNat ≤ s.length ∧ sortedM (cutM s a).1 = true ∧ (cutM s a).2.1 = ((cutM s a).2.1.toNat : Int) := by
  unfold cutM at h ⊢
  simp only at h ⊢
  by_cases h1 : 32 < (rdN s a 0).1
  · rw [if_pos h1] at h; cases h
  · rw [if_neg h1] at h ⊢
    have hle := rdM_le (bad := (rdN s a 0).2.2) (rdN_le (bad := 0) ha) (rdN s a 0).1.toNat
    generalize rdM s (rdN s a 0).2.1 (rdN s a 0).2.2 (rdN s a 0).1.toNat = Z at h hle ⊢
    by_cases h2 : Z.2.2 ≠ 0
    · rw [if_pos h2] at h; exact absurd h h2
    · rw [if_neg h2] at h ⊢
      by_cases h3 : sortedM Z.1 = false
      · rw [if_pos h3] at h; cases h
      · rw [if_neg h3]
        exact ⟨by simpa using hle, by simpa using h3, by simp⟩
theorem getV_put {n : Nat} (hn : n < 18446744073709551616) (p q : Str) : getV (p ++ (putV n ++ q)) p.length = ((n : Int), ((p ++ putV n).length : Int), 0) := by
  obtain ⟨c, t, h1, h2, h3, h4⟩ := putV_back hn
  unfold getV
  rw [if_neg (by simp), List.drop_left, h1]
  simp only [List.cons_append]
  rw [if_neg (by simp; omega)]
  have e1 : (t ++ q).take (wantV c - 1) = t := by rw [h2, ← h4, Nat.add_sub_cancel, List.take_left]
  rw [e1, if_neg (by rw [h3, h2]; simp), h3, h2, ← h4]
  simp
theorem cutV_text {f : Str} (hf : f.length ≤ 65536) (p q : Str) : cutV (p ++ (textB f ++ q)) p.length = (f, ((p ++ textB f).length : Int), 0) := by
  unfold cutV textB
  rw [List.append_assoc, getV_put (by omega)]
  simp only
  rw [if_neg (by simp), if_neg (by omega), if_neg (by simp; omega)]
  have e1 : (p ++ (putV f.length ++ (f ++ q))).drop ((p ++ putV f.length).length : Int).toNat = f ++ q := by
    rw [Int.toNat_natCast, ← List.append_assoc, List.drop_left]
  rw [e1, Int.toNat_natCast, List.take_left]
  simp; omega
theorem rdN_put {n : Nat} (hn : n ≤ 1099511627776) (p q : Str) : rdN (p ++ (putV n ++ q)) p.length 0 = ((n : Int), (p ++ putV n).length, 0) := by
  unfold rdN
  rw [if_neg (by simp), getV_put (by omega)]
  simp only
  rw [if_neg (by simp), if_neg (by omega)]
  simp only [Int.toNat_natCast]
abbrev mkB (m : MkT) : Str := putV m.1.toNat ++ putV m.2.toNat
theorem rdM_marks (q : Str) : ∀ (M : List MkT) (k : Nat) (p s : Str), (∀ x ∈ M, 0 ≤ x.1 ∧ x.1 ≤ 1099511627776 ∧ 1 ≤ x.2 ∧ x.2 ≤ 1099511627776) → k ≤ M.length → s = p ++ (M.flatMap mkB ++ q) → rdM s p.length 0 k = (M.take k, (p ++ (M.take k).flatMap mkB).length, 0)
  | M, 0, p, s, _, _, _ => by simp [rdM]
  | M, k + 1, p, s, hM, hk, hs => by
    have ih := rdM_marks q M k p s hM (by omega) hs
    simp only [rdM]
    rw [ih]
    simp only
    have hx : M[k]? = some M[k] := by simp
    have hm := hM M[k] (List.getElem_mem (by omega))
    have hd : M = M.take k ++ M[k] :: M.drop (k + 1) := by rw [← List.drop_eq_getElem_cons (by omega), List.take_append_drop]
    generalize M[k] = x at hx hm hd
    have e1 : s = (p ++ (M.take k).flatMap mkB) ++ (putV x.1.toNat ++ (putV x.2.toNat ++ ((M.drop (k + 1)).flatMap mkB ++ q))) := by
      rw [hs]; conv => lhs; rw [hd]
      simp [mkB]
    have e2 : s = (p ++ (M.take k).flatMap mkB ++ putV x.1.toNat) ++ (putV x.2.toNat ++ ((M.drop (k + 1)).flatMap mkB ++ q)) := by rw [e1]; simp
    have h1 : rdN s (p ++ (M.take k).flatMap mkB).length 0 = (x.1, (p ++ (M.take k).flatMap mkB ++ putV x.1.toNat).length, 0) := by
      conv => lhs; rw [e1]
      rw [rdN_put (by omega)]
      simp only [Prod.mk.injEq, and_true]; omega
    have h2 : rdN s (p ++ (M.take k).flatMap mkB ++ putV x.1.toNat).length 0 = (x.2, (p ++ (M.take k).flatMap mkB ++ putV x.1.toNat ++ putV x.2.toNat).length, 0) := by
      conv => lhs; rw [e2]
      rw [rdN_put (by omega)]
      simp only [Prod.mk.injEq, and_true]; omega
    rw [h1]
    simp only
    rw [h2]
    have e3 : M.take (k + 1) = M.take k ++ [x] := by rw [List.take_add_one, hx]; rfl
    rw [e3]
    simp [mkB]
theorem cutM_marks {M : List MkT} (h : sortedM M = true) (p q : Str) : cutM (p ++ (marksB M ++ q)) p.length = (M, ((p ++ marksB M).length : Int), 0) := by
  obtain ⟨-, h2, h3⟩ := sortedM_iff.1 h
  have e0 : marksB M = putV M.length ++ M.flatMap mkB := by unfold marksB; rw [if_pos h]
  have e1 := rdN_put (n := M.length) (by omega) p (M.flatMap mkB ++ q)
  have e2 := rdM_marks q M M.length (p ++ putV M.length) (p ++ (putV M.length ++ (M.flatMap mkB ++ q))) h2 (Nat.le_refl _) (by simp)
  rw [e0, List.append_assoc]
  generalize p ++ (putV M.length ++ (M.flatMap mkB ++ q)) = s at e1 e2 ⊢
  have hc : cutM s p.length = if 32 < (rdN s p.length 0).1 then ([], 0, 2) else if (rdM s (rdN s p.length 0).2.1 (rdN s p.length 0).2.2 (rdN s p.length 0).1.toNat).2.2 ≠ 0 then ([], 0, (rdM s (rdN s p.length 0).2.1 (rdN s p.length 0).2.2 (rdN s p.length 0).1.toNat).2.2) else if sortedM (rdM s (rdN s p.length 0).2.1 (rdN s p.length 0).2.2 (rdN s p.length 0).1.toNat).1 = false then ([], 0, 4) else ((rdM s (rdN s p.length 0).2.1 (rdN s p.length 0).2.2 (rdN s p.length 0).1.toNat).1, ((rdM s (rdN s p.length 0).2.1 (rdN s p.length 0).2.2 (rdN s p.length 0).1.toNat).2.1 : Int), 0) := rfl
  rw [hc, e1]
  dsimp only
  rw [if_neg (by omega), Int.toNat_natCast, e2]
  dsimp only
  rw [List.take_length, if_neg (by simp), if_neg (by simp [h])]
  simp
end Go.Proofs.YtjpjebfodhbdfaaGreatDoor
namespace Go.Proofs.YtjpjebfodhbdfaaGreatDoor
open Go
theorem openB_seal {x : Str} (hx : x.length ≤ 65536) (p q : Str) : openB (p ++ (sealB x ++ q)) p.length = (x, ((p ++ sealB x).length : Int), 0) := by
  unfold openB sealB
  rw [List.append_assoc (textB x), cutV_text hx]
  dsimp only
  have hl : (markC (sumC x)).length = 4 := rfl
  rw [if_neg (by simp), if_neg (by simp only [List.length_append, hl]; omega), Int.toNat_natCast]
  have e1 : (p ++ (textB x ++ (markC (sumC x) ++ q))).drop (p ++ textB x).length = markC (sumC x) ++ q := by
    rw [← List.append_assoc, List.drop_left]
  rw [e1, List.take_left' hl, if_neg (by simp)]
  simp only [List.length_append, hl]
  simp; omega
theorem getV_short {n : Nat} (hn : n < 18446744073709551616) (p : Str) {j : Nat} (hj : j < (putV n).length) : (getV (p ++ (putV n).take j) p.length).2.2 ≠ 0 := by
  obtain ⟨c, t, h1, h2, h3, h4⟩ := putV_back hn
  have hl : (putV n).length = sizeV n := putV_len n
  unfold getV
  rw [if_neg (by simp), List.drop_left, h1]
  cases j with
  | zero => simp
  | succ j =>
    simp only [List.take_succ_cons]
    rw [if_pos (by rw [List.length_take, h2]; omega)]
    simp
theorem cutV_short {x : Str} (hx : x.length ≤ 65536) (p : Str) {j : Nat} (hj : j < (textB x).length) : (cutV (p ++ (textB x).take j) p.length).2.2 ≠ 0 := by
  unfold textB at hj ⊢
  rw [List.length_append] at hj
  unfold cutV
  by_cases h : j < (putV x.length).length
  · have := getV_short (n := x.length) (by omega) p h
    rw [List.take_append_of_le_length (by omega), if_pos this]
    exact this
  · have e : (putV x.length ++ x).take j = putV x.length ++ x.take (j - (putV x.length).length) := by
      rw [List.take_append, List.take_of_length_le (by omega)]
    rw [e, getV_put (by omega)]
    dsimp only
    rw [if_neg (by simp), if_neg (by omega), if_pos (by simp only [List.length_append, List.length_take]; omega)]
    simp
theorem openB_short {x : Str} (hx : x.length ≤ 65536) (p : Str) {j : Nat} (hj : j < (sealB x).length) : (openB (p ++ (sealB x).take j) p.length).2.2 ≠ 0 := by
  have hl : (markC (sumC x)).length = 4 := rfl
  unfold sealB at hj ⊢
  rw [List.length_append, hl] at hj
  unfold openB
  by_cases h : j < (textB x).length
  · have := cutV_short hx p h
    rw [List.take_append_of_le_length (by omega), if_pos this]
    exact this
  · have e : (textB x ++ markC (sumC x)).take j = textB x ++ (markC (sumC x)).take (j - (textB x).length) := by
      rw [List.take_append, List.take_of_length_le (by omega)]
    rw [e, cutV_text hx]
    dsimp only
    rw [if_neg (by simp), if_pos (by simp only [List.length_append, List.length_take, hl]; omega)]
    simp
theorem allN_seal (q : Str) : ∀ (l : List Str) (k : Nat) (p : Str), (∀ x ∈ l, x.length ≤ 65536) → l.length ≤ k → (q = [] ∨ (openB (p ++ (l.flatMap sealB ++ q)) (p ++ l.flatMap sealB).length).2.2 ≠ 0) →
    allN (p ++ (l.flatMap sealB ++ q)) k p.length = (l, (p ++ l.flatMap sealB).length)
  | [], 0, p, _, _, _ => by simp [allN]
  | [], k + 1, p, _, _, hq => by
    simp only [List.flatMap_nil, List.nil_append, List.append_nil] at hq ⊢
    rw [allN, if_neg]
    rintro ⟨h1, h2⟩
    rcases hq with rfl | hq
    · simp at h1
    · exact hq h2
  | x :: l, 0, p, _, hk, _ => by simp at hk
  | x :: l, k + 1, p, hl, hk, hq => by
    have e1 : p ++ ((x :: l).flatMap sealB ++ q) = p ++ (sealB x ++ (l.flatMap sealB ++ q)) := by simp
    have e2 : p ++ (sealB x ++ (l.flatMap sealB ++ q)) = (p ++ sealB x) ++ (l.flatMap sealB ++ q) := by simp
    have e3 : p ++ (x :: l).flatMap sealB = (p ++ sealB x) ++ l.flatMap sealB := by simp
    have ho := openB_seal (hl x (by simp)) p (l.flatMap sealB ++ q)
    have h4 : 0 < (sealB x).length := by unfold sealB; rw [List.length_append, markC_len]; omega
    rw [e1, e3, e2] at hq
    rw [e1, allN, if_pos ⟨by simp only [List.length_append]; omega, by rw [ho]⟩, ho]
    dsimp only
    rw [Int.toNat_natCast, e2, allN_seal q l k (p ++ sealB x) (fun y hy => hl y (by simp [hy])) (by simp at hk; omega) hq, e3]
theorem seal_pos (x : Str) : 1 ≤ (sealB x).length := by unfold sealB; rw [List.length_append, markC_len]; omega
theorem seals_le : ∀ (l : List Str), l.length ≤ (l.flatMap sealB).length
  | [] => by simp
  | x :: l => by
    have h1 := seal_pos x
    have h2 := seals_le l
    rw [List.flatMap_cons, List.length_append, List.length_cons]; omega
theorem allB_seal {l : List Str} (hl : ∀ x ∈ l, x.length ≤ 65536) (q : Str) (hq : q = [] ∨ (openB (l.flatMap sealB ++ q) (l.flatMap sealB).length).2.2 ≠ 0) : allB (l.flatMap sealB ++ q) = l := by
  unfold allB
  have h1 := seals_le l
  have := allN_seal q l (l.flatMap sealB ++ q).length [] hl (by rw [List.length_append]; omega) (by simpa using hq)
  simp only [List.nil_append, List.length_nil] at this
  rw [this]
theorem allB_cut {l : List Str} (hl : ∀ x ∈ l, x.length ≤ 65536) {x : Str} (hx : x.length ≤ 65536) {j : Nat} (hj : j < (sealB x).length) : allB (l.flatMap sealB ++ (sealB x).take j) = l :=
  allB_seal hl _ (.inr (openB_short hx _ hj))
theorem textL_seal (rd : Nat) (l : List Str) : textL rd l = (l.map fun r => putV rd ++ r).flatMap sealB := by
  unfold textL rowB
  rw [List.flatMap_map]
theorem recs_own {rd : Nat} (hr : rd < 18446744073709551616) : ∀ (l : List Str), recsB rd (l.map fun r => putV rd ++ r) = l
  | [] => rfl
  | r :: l => by
    have h := getV_put hr [] r
    simp only [List.nil_append, List.length_nil] at h
    simp only [List.map_cons, recsB, h]
    rw [if_neg (by simp), if_pos trivial, Int.toNat_natCast, List.drop_left, recs_own hr l]
theorem recs_other {rd rd' : Nat} (hr : rd < 18446744073709551616) (hne : rd ≠ rd') : ∀ (l : List Str), recsB rd' (l.map fun r => putV rd ++ r) = []
  | [] => rfl
  | r :: l => by
    have h := getV_put hr [] r
    simp only [List.nil_append, List.length_nil] at h
    simp only [List.map_cons, recsB, h]
    rw [if_neg (by simp), if_neg (by omega), recs_other hr hne l]
theorem rdT_put {f : Str} (hf : f.length ≤ 65536) (p q : Str) : rdT (p ++ (textB f ++ q)) p.length 0 = (f, (p ++ textB f).length, 0) := by
  unfold rdT
  rw [if_neg (by simp), cutV_text hf]
  dsimp only
  rw [if_neg (by simp), Int.toNat_natCast]
theorem right_tl {e : Ev} (h : rightE e = true) : e.t.length ≤ 136 ∧ e.l.length ≤ 64 := by
  simp only [rightE, Bool.and_eq_true, decide_eq_true_eq, rightS] at h
  obtain ⟨⟨-, h1, h2⟩, h3⟩ := h
  refine ⟨?_, h3⟩
  have h4 := unl_le (levels e.t) fun x hx => by
    have := List.all_eq_true.1 h2 x hx
    simp only [nameS, Bool.and_eq_true, decide_eq_true_eq] at this
    exact this.2
  rw [unl_levels] at h4
  omega
theorem getE_put {e : Ev} (h : rightE e = true) (p q : Str) : getE (p ++ (putE e ++ q)) p.length = (e, ((p ++ putE e).length : Int), 0) := by
  have hb := rightE_bd h
  obtain ⟨ht, hl⟩ := right_tl h
  have e0 : putE e = putV e.o.toNat ++ putV e.s.toNat ++ putV e.e.toNat ++ textB e.t ++ textB e.l := by unfold putE; rw [if_pos h]
  have a1 := rdN_put (n := e.o.toNat) (by omega) p (putV e.s.toNat ++ putV e.e.toNat ++ textB e.t ++ textB e.l ++ q)
  have a2 := rdN_put (n := e.s.toNat) (by omega) (p ++ putV e.o.toNat) (putV e.e.toNat ++ textB e.t ++ textB e.l ++ q)
  have a3 := rdN_put (n := e.e.toNat) (by omega) (p ++ putV e.o.toNat ++ putV e.s.toNat) (textB e.t ++ textB e.l ++ q)
  have a4 := rdT_put (f := e.t) (by omega) (p ++ putV e.o.toNat ++ putV e.s.toNat ++ putV e.e.toNat) (textB e.l ++ q)
  have a5 := rdT_put (f := e.l) (by omega) (p ++ putV e.o.toNat ++ putV e.s.toNat ++ putV e.e.toNat ++ textB e.t) q
  have s1 : p ++ (putV e.o.toNat ++ (putV e.s.toNat ++ putV e.e.toNat ++ textB e.t ++ textB e.l ++ q)) = p ++ (putE e ++ q) := by rw [e0]; simp
  have s2 : p ++ putV e.o.toNat ++ (putV e.s.toNat ++ (putV e.e.toNat ++ textB e.t ++ textB e.l ++ q)) = p ++ (putE e ++ q) := by rw [e0]; simp
  have s3 : p ++ putV e.o.toNat ++ putV e.s.toNat ++ (putV e.e.toNat ++ (textB e.t ++ textB e.l ++ q)) = p ++ (putE e ++ q) := by rw [e0]; simp
  have s4 : p ++ putV e.o.toNat ++ putV e.s.toNat ++ putV e.e.toNat ++ (textB e.t ++ (textB e.l ++ q)) = p ++ (putE e ++ q) := by rw [e0]; simp
  have s5 : p ++ putV e.o.toNat ++ putV e.s.toNat ++ putV e.e.toNat ++ textB e.t ++ (textB e.l ++ q) = p ++ (putE e ++ q) := by rw [e0]; simp
  rw [s1] at a1; rw [s2] at a2; rw [s3] at a3; rw [s4] at a4; rw [s5] at a5
  unfold getE
  rw [a1]
  dsimp only
  rw [a2]
  dsimp only
  rw [a3]
  dsimp only
  rw [a4]
  dsimp only
  rw [a5]
  dsimp only
  have e6 : (⟨(e.o.toNat : Int), (e.s.toNat : Int), e.t, e.l, (e.e.toNat : Int)⟩ : Ev) = e := by
    obtain ⟨o, s, t, l, k⟩ := e
    simp only at hb
    simp only [Ev.mk.injEq, true_and]
    omega
  rw [e6, if_neg (by simp), if_neg (by simp [h]), e0]
  simp
end Go.Proofs.YtjpjebfodhbdfaaGreatDoor
namespace Go.Proofs.YtjpjebfodhbdfaaGreatDoor
open Go
theorem R4.set_get (r : R4) {f : Nat} (hf : f < 4) : r.set f (r.get f) = r := R4.ext' fun g _ => by
  rw [R4.get_set _ hf]
  by_cases e : g = f <;> simp [e]
theorem doW_zero {x : Wr} (hf : x.f < 4) (r : R4) : x.doW r 0 = r := by
  unfold Wr.doW
  by_cases h : x.w = true
  · rw [if_pos h]; rfl
  · rw [if_neg h]; simp [R4.set_get _ hf]
theorem crashL_zero : ∀ (W : List Wr) (r : R4), (∀ x ∈ W, x.f < 4) → crashL W r 0 = r
  | [], _, _ => rfl
  | x :: W, r, h => by
    simp only [crashL, Nat.zero_min, Nat.zero_sub]
    rw [doW_zero (h x (by simp)), crashL_zero W r fun y hy => h y (by simp [hy])]
    by_cases hc : x.w = true ∧ 0 < x.units <;> simp [hc]
theorem crashL_app : ∀ (A B : List Wr) (r : R4) (left : Nat), (∀ x ∈ A, x.f < 4) → (∀ x ∈ B, x.f < 4) →
    crashL (A ++ B) r left = if left ≤ unitsL A then crashL A r left else crashL B (A.foldl (fun r x => x.doW r x.units) r) (left - unitsL A)
  | [], B, r, left, _, hB => by
    show crashL B r left = if left ≤ 0 then crashL [] r left else crashL B r (left - 0)
    by_cases h : left ≤ 0
    · rw [if_pos h]
      have : left = 0 := by omega
      subst this
      rw [crashL_zero B r hB]; rfl
    · rw [if_neg h, Nat.sub_zero]
  | x :: A, B, r, left, hA, hB => by
    have ih := crashL_app A B (x.doW r (min left x.units)) (left - min left x.units) (fun y hy => hA y (by simp [hy])) hB
    simp only [List.cons_append, crashL, unitsL, List.foldl_cons]
    by_cases hc : x.w = true ∧ min left x.units < x.units
    · rw [if_pos hc]
      split
      · rfl
      · omega
    · rw [if_neg hc, ih]
      by_cases h1 : left - min left x.units ≤ unitsL A
      · rw [if_pos h1]
        split
        · rfl
        · omega
      · rw [if_neg h1]
        split
        · omega
        · have e1 : min left x.units = x.units := by omega
          rw [e1, show left - x.units - unitsL A = left - (x.units + unitsL A) by omega]
theorem putV_le9 (n : Nat) : (putV n).length ≤ 9 := by
  rw [putV_len]; unfold sizeV
  have := behN_ge n
  split; omega
  split; omega
  split <;> omega
theorem rows_le {rd : Nat} {l : List Str} (hl : ∀ s ∈ l, s.length ≤ 1024) : ∀ x ∈ l.map (fun r => putV rd ++ r), x.length ≤ 65536 := fun x hx => by
  obtain ⟨s, hs, rfl⟩ := List.mem_map.1 hx
  have h1 := hl s hs
  have h2 := putV_le9 rd
  rw [List.length_append]; omega
theorem recs_text {rd rd' : Nat} {l : List Str} (hr : rd ≤ 1000000) (hl : ∀ s ∈ l, s.length ≤ 1024) : recsB rd' (allB (textL rd l)) = if rd = rd' then l else [] := by
  have h1 := allB_seal (rows_le (rd := rd) hl) [] (.inl rfl)
  rw [List.append_nil] at h1
  rw [textL_seal, h1]
  by_cases e : rd = rd'
  · subst e; rw [if_pos rfl, recs_own (by omega)]
  · rw [if_neg e, recs_other (by omega) e]
theorem recs_cut {rd : Nat} {l : List Str} {s : Str} {j : Nat} (hr : rd ≤ 1000000) (hl : ∀ s ∈ l, s.length ≤ 1024) (hs : s.length ≤ 1024) (hj : j < (rowB rd s).length) : recsB rd (allB (textL rd l ++ (rowB rd s).take j)) = l := by
  have h2 := putV_le9 rd
  have h1 := allB_cut (rows_le (rd := rd) hl) (x := putV rd ++ s) (by rw [List.length_append]; omega) hj
  rw [textL_seal]
  unfold rowB
  rw [h1, recs_own (by omega)]
end Go.Proofs.YtjpjebfodhbdfaaGreatDoor
namespace Go.Proofs.YtjpjebfodhbdfaaGreatDoor
open Go
structure CtOk (b : Ct) : Prop where
  ms : sortedM b.M = true
  len : b.L.length ≤ 64
  asc : b.L.Pairwise fun x y => x.1 < y.1
  top : ∀ x ∈ b.L, 1 ≤ x.1 ∧ x.1 ≤ b.n
  ev : ∀ x ∈ b.L, rightE x.2 = true ∧ 1 ≤ x.2.e ∧ x.2.s ≤ seqK b x.2.o
  ris : b.L.Pairwise fun x y => x.2.o = y.2.o → x.2.s < y.2.s
abbrev ct0 : Ct := ⟨[], [], 0⟩
theorem CtOk.nil : CtOk ct0 := ⟨rfl, by simp, List.Pairwise.nil, by simp, by simp, List.Pairwise.nil⟩
theorem why_zero {b : Ct} {e : Ev} (h : whyK b e = 0) : rightE e = true ∧ 1 ≤ e.e ∧ seqK b e.o < e.s ∧ b.L.length < 64 ∧ ((mkO b.M e.o).isSome = true ∨ b.M.length < 32) := by
  unfold whyK at h
  by_cases h1 : rightE e = false ∨ e.e < 1
  · rw [if_pos h1] at h; cases h
  · rw [if_neg h1] at h
    simp only [not_or] at h1
    by_cases h2 : e.s ≤ seqK b e.o
    · rw [if_pos h2] at h; cases h
    · rw [if_neg h2] at h
      by_cases h3 : 64 ≤ b.L.length ∨ ((mkO b.M e.o).isNone = true ∧ 32 ≤ b.M.length)
      · rw [if_pos h3] at h; cases h
      · simp only [not_or, not_and] at h3
        refine ⟨by simpa using h1.1, by omega, by omega, by omega, ?_⟩
        cases hm : mkO b.M e.o with
        | none => right; have := h3.2 (by rw [hm]; rfl); omega
        | some n => left; rfl
theorem seq_add (b : Ct) (e : Ev) (o : Int) : seqK (addK b e) o = if o = e.o then e.s else seqK b o := by
  unfold seqK addK
  rw [mkO_set]
  by_cases h : o = e.o <;> simp [h]
theorem CtOk.add {b : Ct} (h : CtOk b) {e : Ev} (hw : whyK b e = 0) : CtOk (addK b e) := by
  obtain ⟨h1, h2, h3, h4, h5⟩ := why_zero hw
  obtain ⟨m1, m2, m3⟩ := sortedM_iff.1 h.ms
  have hb := rightE_bd h1
  refine ⟨sortedM_iff.2 ⟨ris_set m1 _, fun z hz => ?_, ?_⟩, by simp [addK]; omega, ?_, fun x hx => ?_, fun x hx => ?_, ?_⟩
  · rcases set_mem hz with rfl | hz
    · exact ⟨hb.1.1, hb.1.2, hb.2.1.1, hb.2.1.2⟩
    · exact m2 z hz
  · show (setMk b.M (e.o, e.s)).length ≤ 32
    rw [set_len' m1]
    cases hm : mkO b.M e.o with
    | some n => exact m3
    | none =>
      rw [hm] at h5
      have := h5.resolve_left (by simp)
      simp only; omega
  · refine List.pairwise_append.2 ⟨h.asc, by simp, fun x hx y hy => ?_⟩
    simp at hy; subst hy
    have := (h.top x hx).2
    simp only; omega
  · rcases List.mem_append.1 hx with hx | hx
    · have := h.top x hx
      exact ⟨this.1, by show x.1 ≤ b.n + 1; omega⟩
    · simp at hx; subst hx; exact ⟨by simp, by show b.n + 1 ≤ b.n + 1; omega⟩
  · rw [seq_add]
    rcases List.mem_append.1 hx with hx | hx
    · obtain ⟨q1, q2, q3⟩ := h.ev x hx
      refine ⟨q1, q2, ?_⟩
      by_cases ho : x.2.o = e.o
      · rw [if_pos ho]; rw [ho] at q3; omega
      · rw [if_neg ho]; exact q3
    · simp at hx; subst hx; exact ⟨h1, h2, by simp⟩
  · refine List.pairwise_append.2 ⟨h.ris, by simp, fun x hx y hy ho => ?_⟩
    simp at hy; subst hy
    have := (h.ev x hx).2.2
    simp only at ho ⊢
    rw [ho] at this; omega
theorem age_right {e : Ev} {n : Int} (h : rightE e = true) (h2 : 0 < (ageE e n).e) : rightE (ageE e n) = true := by
  unfold ageE at h2 ⊢
  by_cases h1 : n ≤ 0
  · rw [if_pos h1]; exact h
  · rw [if_neg h1] at h2 ⊢
    by_cases h3 : e.e ≤ n
    · rw [if_pos h3] at h2; simp at h2
    · rw [if_neg h3] at h2 ⊢
      simp only [rightE, Bool.and_eq_true, inB_iff] at h ⊢
      refine ⟨⟨⟨h.1.1.1, ?_⟩, h.1.2⟩, h.2⟩
      have := h.1.1.2
      simp only at h2 ⊢
      omega
theorem age_os (e : Ev) (n : Int) : (ageE e n).o = e.o ∧ (ageE e n).s = e.s ∧ (ageE e n).t = e.t ∧ (ageE e n).l = e.l := by
  unfold ageE; split
  · exact ⟨rfl, rfl, rfl, rfl⟩
  · split <;> exact ⟨rfl, rfl, rfl, rfl⟩
theorem ageL_mem {L : List (Nat × Ev)} {n : Int} {y : Nat × Ev} (h : y ∈ ageL L n) : ∃ x ∈ L, y = (x.1, ageE x.2 n) ∧ 0 < y.2.e := by
  unfold ageL at h
  obtain ⟨h1, h2⟩ := List.mem_filter.1 h
  obtain ⟨x, hx, rfl⟩ := List.mem_map.1 h1
  exact ⟨x, hx, rfl, by simpa using h2⟩
theorem ageL_pw {L : List (Nat × Ev)} {n : Int} {R : (Nat × Ev) → (Nat × Ev) → Prop} (hR : ∀ x y, R x y → R (x.1, ageE x.2 n) (y.1, ageE y.2 n)) (h : L.Pairwise R) : (ageL L n).Pairwise R := by
  unfold ageL
  exact List.Pairwise.sublist List.filter_sublist (List.pairwise_map.2 (h.imp fun {x y} hxy => hR x y hxy))
theorem ageL_len (L : List (Nat × Ev)) (n : Int) : (ageL L n).length ≤ L.length := by
  unfold ageL
  have := List.length_filter_le (fun x : Nat × Ev => decide (0 < x.2.e)) (L.map fun x => (x.1, ageE x.2 n))
  rwa [List.length_map] at this
theorem CtOk.age {b : Ct} (h : CtOk b) (n : Int) : CtOk (ageK b n) := by
  refine ⟨h.ms, Nat.le_trans (ageL_len _ _) h.len, ageL_pw (fun x y hxy => hxy) h.asc, fun x hx => ?_, fun x hx => ?_, ageL_pw (fun x y hxy ho => ?_) h.ris⟩
  · obtain ⟨y, hy, rfl, -⟩ := ageL_mem hx
    exact h.top y hy
  · obtain ⟨y, hy, rfl, hp⟩ := ageL_mem hx
    obtain ⟨q1, q2, q3⟩ := h.ev y hy
    have hos := age_os y.2 n
    simp only at hp ⊢
    refine ⟨age_right q1 hp, by omega, ?_⟩
    rw [hos.1, hos.2.1]; exact q3
  · simp only [(age_os x.2 n).1, (age_os y.2 n).1, (age_os x.2 n).2.1, (age_os y.2 n).2.1] at ho ⊢
    exact hxy ho
theorem redo_put {b : Ct} {e : Ev} (h : whyK b e = 0) : redoK b (putR e) = some (addK b e) := by
  have hr := (why_zero h).1
  have hg := getE_put hr [80] []
  simp only [List.append_nil] at hg
  have hg : getE (putR e) 1 = (e, ((putR e).length : Int), 0) := hg
  unfold putR at hg ⊢
  unfold redoK
  dsimp only
  rw [if_pos rfl, hg]
  rw [if_pos ⟨rfl, rfl, h⟩]
theorem numK_put {n : Nat} (hn : n ≤ 1099511627776) (p q : Str) : numK (p ++ (putV n ++ q)) p.length = some (n, (p ++ putV n).length) := by
  unfold numK
  rw [getV_put (by omega), if_pos ⟨rfl, by simp only; omega⟩]
  simp only [Int.toNat_natCast]
theorem redo_tick {b : Ct} {n : Int} (h1 : 1 ≤ n) (h2 : n ≤ 1000) : redoK b (tickR n) = some (ageK b n) := by
  have hg := numK_put (n := n.toNat) (by omega) [84] []
  simp only [List.append_nil] at hg
  have hg : numK (tickR n) 1 = some (n.toNat, (tickR n).length) := hg
  unfold tickR at hg ⊢
  unfold redoK
  dsimp only
  rw [if_neg (by decide), if_pos rfl, hg]
  dsimp only
  rw [if_pos ⟨rfl, by omega, by omega⟩, Int.toNat_of_nonneg (by omega)]
theorem redos_snoc : ∀ (l : List Str) (s : Str) (b : Ct), redosK (l ++ [s]) b = (redosK l b).bind fun c => redoK c s
  | [], s, b => by
    simp only [List.nil_append, redosK, Option.bind_some]
    cases redoK b s <;> rfl
  | x :: l, s, b => by
    simp only [List.cons_append, redosK]
    cases redoK b x with
    | none => rfl
    | some c => exact redos_snoc l s c
theorem bookOf_snoc {st : Str} {l : List Str} {b c : Ct} {s : Str} (h : bookOf st l = some b) (h2 : redoK b s = some c) : bookOf st (l ++ [s]) = some c := by
  unfold bookOf at h ⊢
  cases hq : (if st = [] then some ct0 else readK st) with
  | none => rw [hq] at h; cases h
  | some a =>
    rw [hq] at h
    dsimp only at h ⊢
    rw [redos_snoc, h]; exact h2
theorem readL_put (M : List MkT) (top : Nat) (q : Str) : ∀ (Z L : List (Nat × Ev)) (last : Nat) (p s : Str), (∀ x ∈ Z, rightE x.2 = true ∧ 1 ≤ x.2.e ∧ x.2.s ≤ (mkO M x.2.o).getD 0 ∧ x.1 ≤ top) → top ≤ 1099511627776 → (Z.Pairwise fun x y => x.1 < y.1) → (∀ x ∈ Z, last < x.1) → s = p ++ (Z.flatMap entB ++ q) →
    readL s M top Z.length L last p.length = some (L ++ Z, (p ++ Z.flatMap entB).length)
  | [], L, last, p, s, _, _, _, _, _ => by simp [readL]
  | x :: Z, L, last, p, s, hZ, ht, ha, hl, hs => by
    obtain ⟨g1, g2, g3, g4⟩ := hZ x (by simp)
    obtain ⟨a1, a2⟩ := List.pairwise_cons.1 ha
    have e1 : s = p ++ (putV x.1 ++ (putE x.2 ++ (Z.flatMap entB ++ q))) := by rw [hs]; simp
    have e2 : s = (p ++ putV x.1) ++ (putE x.2 ++ (Z.flatMap entB ++ q)) := by rw [hs]; simp
    have e3 : s = (p ++ putV x.1 ++ putE x.2) ++ (Z.flatMap entB ++ q) := by rw [hs]; simp
    have h1 : numK s p.length = some (x.1, (p ++ putV x.1).length) := by rw [e1]; exact numK_put (by omega) _ _
    have h2 : getE s (p ++ putV x.1).length = (x.2, ((p ++ putV x.1 ++ putE x.2).length : Int), 0) := by rw [e2]; exact getE_put g1 _ _
    rw [List.length_cons, readL, h1]
    dsimp only
    rw [h2]
    dsimp only
    rw [if_pos ⟨rfl, hl x (by simp), g4, by omega, g3⟩, Int.toNat_natCast,
      readL_put M top q Z (L ++ [x]) x.1 (p ++ putV x.1 ++ putE x.2) s (fun y hy => hZ y (by simp [hy])) ht a2 (fun y hy => a1 y hy) e3]
    simp
theorem read_bytes {b : Ct} (h : CtOk b) (hn : b.n ≤ 1099511627776) : readK (bytesK b) = some b := by
  have hl := h.len
  have e1 : bytesK b = putV b.n ++ (marksB b.M ++ (putV b.L.length ++ b.L.flatMap entB)) := by unfold bytesK; simp
  have e2 : bytesK b = putV b.n ++ (marksB b.M ++ (putV b.L.length ++ b.L.flatMap entB)) := e1
  have e3 : bytesK b = (putV b.n ++ marksB b.M) ++ (putV b.L.length ++ b.L.flatMap entB) := by unfold bytesK; simp
  have e4 : bytesK b = (putV b.n ++ marksB b.M ++ putV b.L.length) ++ (b.L.flatMap entB ++ []) := by unfold bytesK; simp
  have a1 := numK_put hn [] (marksB b.M ++ (putV b.L.length ++ b.L.flatMap entB))
  have a2 := cutM_marks h.ms (putV b.n) (putV b.L.length ++ b.L.flatMap entB)
  have a3 := numK_put (n := b.L.length) (by omega) (putV b.n ++ marksB b.M) (b.L.flatMap entB)
  have a4 := readL_put b.M b.n [] b.L [] 0 (putV b.n ++ marksB b.M ++ putV b.L.length) (bytesK b) (fun x hx => ⟨(h.ev x hx).1, (h.ev x hx).2.1, (h.ev x hx).2.2, (h.top x hx).2⟩) hn h.asc (fun x hx => (h.top x hx).1) e4
  simp only [List.nil_append, List.length_nil] at a1 a4
  rw [← e1] at a1; rw [← e1] at a2; rw [← e3] at a3
  unfold readK
  rw [a1]
  dsimp only
  rw [a2]
  dsimp only
  rw [if_pos rfl, Int.toNat_natCast]
  unfold readE
  rw [a3]
  dsimp only
  rw [if_pos hl, a4]
  dsimp only
  rw [if_pos (by rw [e4]; simp)]
end Go.Proofs.YtjpjebfodhbdfaaGreatDoor
namespace Go.Proofs.YtjpjebfodhbdfaaGreatDoor
open Go
structure DkG (D : Dk) : Prop where
  ok : DkOk D
  cr : ∀ left f, ((crashL D.W D.kept left).get f).length ≤ 65536
theorem DkG.z : DkG dk0 := by
  have h : ∀ f, (r4z.get f).length ≤ 65536 := fun f => by
    match f with
    | 0 => decide
    | 1 => decide
    | 2 => decide
    | 3 => decide
    | f + 4 => simp [R4.get]
  exact ⟨⟨h, h, by simp⟩, fun _ f => h f⟩
theorem DkG.put {D : Dk} (h : DkG D) {x : Wr} (hx : x.f < 4 ∧ x.s.length ≤ 65536) (hn : ∀ n f, ((x.doW D.now n).get f).length ≤ 65536) : DkG (putK D x) := by
  have hA : ∀ y ∈ D.W, y.f < 4 := fun y hy => (h.ok.w y hy).1
  refine ⟨⟨fun f => ?_, h.ok.kept, ?_⟩, fun left f => ?_⟩
  · rw [putK_now]; exact hn _ f
  · intro y hy
    simp only [putK, List.mem_append, List.mem_singleton] at hy
    rcases hy with hy | rfl
    · exact h.ok.w y hy
    · exact hx
  · show ((crashL (D.W ++ [x]) D.kept left).get f).length ≤ 65536
    rw [crashL_app _ _ _ _ hA (by simpa using hx.1)]
    split
    · exact h.cr left f
    · have e : crashL [x] (D.W.foldl (fun r x => x.doW r x.units) D.kept) (left - unitsL D.W) = D.now ∨ crashL [x] (D.W.foldl (fun r x => x.doW r x.units) D.kept) (left - unitsL D.W) = x.doW D.now (min (left - unitsL D.W) x.units) := by
        simp only [crashL]
        split
        · exact .inl rfl
        · exact .inr rfl
      rcases e with e | e
      · rw [e]; exact h.ok.now f
      · rw [e]; exact hn _ f
theorem DkG.append {D : Dk} (h : DkG D) {f : Nat} (hf : f < 4) (s : Str) : DkG (appendK D f s).2 := by
  unfold appendK
  split
  · exact h
  · rename_i hc
    refine h.put (x := ⟨false, f, s⟩) ⟨hf, by dsimp only; omega⟩ fun n g => ?_
    rw [doW_get (x := ⟨false, f, s⟩) hf]
    have := h.ok.now g
    dsimp only
    split
    · rename_i e; subst e
      simp only [Bool.false_eq_true, if_false, List.length_append, List.length_take]; omega
    · exact this
theorem DkG.replace {D : Dk} (h : DkG D) {f : Nat} (hf : f < 4) (s : Str) : DkG (replaceK D f s).2 := by
  unfold replaceK
  split
  · exact h
  · rename_i hc
    refine h.put (x := ⟨true, f, s⟩) ⟨hf, by dsimp only; omega⟩ fun n g => ?_
    rw [doW_get (x := ⟨true, f, s⟩) hf]
    have := h.ok.now g
    dsimp only
    split
    · simp only [if_true]; split <;> omega
    · exact this
theorem DkG.flat {r : R4} (h : ∀ f, (r.get f).length ≤ 65536) : DkG ⟨r, []⟩ := ⟨⟨h, h, by simp⟩, fun _ f => h f⟩
theorem DkG.sync {D : Dk} (h : DkG D) : DkG (syncK D) := DkG.flat h.ok.now
theorem DkG.crash {D : Dk} (h : DkG D) (n : Int) : DkG (crashK D n) := DkG.flat (h.cr _)
theorem replace_W (D : Dk) (f : Nat) (s : Str) : (replaceK D f s).2.W.length ≤ D.W.length + 1 := by
  unfold replaceK; split <;> simp [putK]
theorem allN_le (s : Str) : ∀ (k a : Nat), (∀ x ∈ (allN s k a).1, x.length ≤ 65536) ∧ (a ≤ s.length → (allN s k a).1.length + a ≤ s.length)
  | 0, a => ⟨by simp [allN], fun h => by simpa [allN] using h⟩
  | k + 1, a => by
    rw [allN]
    split
    · rename_i hc
      obtain ⟨x, b, ho, hab, hbl, -, hx⟩ := openB_ok hc.2
      rw [ho]
      obtain ⟨h1, h2⟩ := allN_le s k (b : Int).toNat
      rw [Int.toNat_natCast] at h1 h2 ⊢
      refine ⟨?_, fun _ => ?_⟩
      · intro y hy
        rcases List.mem_cons.1 hy with rfl | hy
        · exact hx
        · exact h1 y hy
      · have := h2 hbl
        simp only [List.length_cons]; omega
    · exact ⟨by simp, fun h => by simpa using h⟩
theorem allB_le (s : Str) : (∀ x ∈ allB s, x.length ≤ 65536) ∧ (allB s).length ≤ s.length := by
  obtain ⟨h1, h2⟩ := allN_le s s.length 0
  exact ⟨h1, by have := h2 (Nat.zero_le _); unfold allB; omega⟩
theorem recs_le (rd : Nat) : ∀ (l : List Str), (∀ x ∈ l, x.length ≤ 65536) → (∀ x ∈ recsB rd l, x.length ≤ 65536) ∧ (recsB rd l).length ≤ l.length
  | [], _ => by simp [recsB]
  | x :: l, h => by
    obtain ⟨h1, h2⟩ := recs_le rd l fun y hy => h y (by simp [hy])
    have h3 := h x (by simp)
    rw [recsB]
    split
    · simp
    · split
      · refine ⟨?_, by simp only [List.length_cons]; omega⟩
        intro y hy
        rcases List.mem_cons.1 hy with rfl | hy
        · rw [List.length_drop]; omega
        · exact h1 y hy
      · exact ⟨h1, by simp only [List.length_cons]; omega⟩
theorem rowB_le (rd : Nat) {s : Str} : (rowB rd s).length ≤ s.length + 22 := by
  have h1 := sealB_len (putV rd ++ s)
  have h2 := putV_le9 rd
  rw [List.length_append] at h1
  unfold rowB; omega
theorem textL_le (rd : Nat) : ∀ (l : List Str), (∀ x ∈ l, x.length ≤ 65536) → (textL rd l).length ≤ 70000 * l.length
  | [], _ => Nat.le_refl _
  | x :: l, h => by
    have h1 := textL_le rd l fun y hy => h y (by simp [hy])
    have h2 := rowB_le rd (s := x)
    have h3 := h x (by simp)
    unfold textL at h1 ⊢
    rw [List.flatMap_cons, List.length_append, List.length_cons]; omega
theorem textL_app (rd : Nat) (a b : List Str) : textL rd (a ++ b) = textL rd a ++ textL rd b := by unfold textL; rw [List.flatMap_append]
theorem checkLg_DkG {G : Lg} {D : Dk} (h : DkG D) (s : Str) : DkG (checkLg G D s).2.2 := by
  unfold checkLg
  split
  · exact h
  · exact (h.replace (by omega) _).replace (by omega) _
theorem checkLg_W (G : Lg) (D : Dk) (s : Str) : (checkLg G D s).2.2.W.length ≤ D.W.length + 2 := by
  unfold checkLg
  split
  · dsimp only; omega
  · dsimp only
    have h1 := replace_W D 0 (rowB (G.rd + 1) s)
    have h2 := replace_W (replaceK D 0 (rowB (G.rd + 1) s)).2 1 []
    omega
end Go.Proofs.YtjpjebfodhbdfaaGreatDoor
namespace Go.Proofs.YtjpjebfodhbdfaaGreatDoor
open Go
theorem part_le {x : Str} : (partB x).1 ≤ 1099511627776 ∧ (partB x).2.1.length ≤ x.length := by
  unfold partB
  split
  · exact ⟨by simp, by simp⟩
  · split
    · exact ⟨by simp, by simp⟩
    · exact ⟨by dsimp only; omega, by dsimp only; rw [List.length_drop]; omega⟩
theorem head_le {s : Str} (hs : s.length ≤ 65536) : (headB s).1 ≤ 1099511627776 ∧ (headB s).2.1.length ≤ 65536 := by
  unfold headB
  split
  · exact ⟨by simp, by simp⟩
  · split
    · exact ⟨by simp, by simp⟩
    · rename_i h1
      split
      · exact ⟨by simp, by simp⟩
      · obtain ⟨x, b, ho, -, -, -, hx⟩ := openB_ok (Decidable.not_not.1 h1)
        have := part_le (x := x)
        rw [ho]
        exact ⟨this.1, by have := this.2; dsimp only; omega⟩
theorem wrow_spec {rd : Nat} (hr : rd < 4611686018427387904) {s : Str} (hs : s.length ≤ 800000) : FN Tryz.prog 80 [.int .i64 (rd : Int), sv s] [] (is (sv (rowB rd s)) []) := by
  have h1 := putV_le rd
  refine FN.intro 11 [(0, .int .i64 (rd : Int)), (1, sv s)] Tryz.func80 rfl (enters Tryz.func80 (by kernel_rfl) rfl) Tryz.ntmps80 rfl rfl ?_
  refine WP.seq <| WP.region <| v0 (S0.assign rfl) rfl <| vE <| WP.seq <| WP.region <| v0 (S0.move rfl) rfl <| v0 (S0.convI rfl (wrap_u64 (by omega))) rfl <| ?_
  refine vcd (S1.callF rfl (put_spec (n := rd) (by omega)) take0) rfl ?_
  refine v0 (S0.move rfl) rfl <| ?_
  refine v0 (S0.addS rfl rfl (by omega)) rfl <| ?_
  refine vcd (S1.callF rfl (seal_spec (s := putV rd ++ s) (by rw [List.length_append]; omega)) take0) rfl ?_
  refine v0 (S0.assign rfl) rfl <| vE <| WP.ret <| ?_
  refine r1 rfl rfl ⟨?_, rfl⟩
  rfl
theorem parted_spec {x : Str} (hx : x.length ≤ 1000000) : FN Tryz.prog 119 [sv x] [] (is (.tuple ⟨[.int .i64 ((partB x).1 : Int), sv (partB x).2.1, .int .i64 (partB x).2.2]⟩) []) := by
  refine FN.intro 26 [(0, sv x)] Tryz.func119 rfl (enters Tryz.func119 (by kernel_rfl) rfl) Tryz.ntmps119 rfl rfl ?_
  refine WP.seq <| WP.region <| v0 (S0.assign rfl) rfl <| v0 (S0.assign rfl) rfl <| v0 (S0.assign rfl) rfl <| vE <| WP.seq <| WP.region <| v0 (S0.move rfl) rfl <| ?_
  refine vcd (S1.callF rfl (get_spec (s := x) (a := 0) hx (by omega)) take0) rfl ?_
  refine v0 (S0.move rfl) rfl <| v0 (S0.extract rfl rfl) rfl <| v0 (S0.extract rfl rfl) rfl <| v0 (S0.extract rfl rfl) rfl <| v0 (S0.assign rfl) rfl <| v0 (S0.assign rfl) rfl <| v0 (S0.assign rfl) rfl <| vE <| WP.seq <| WP.block <| WP.seq <| WP.region <| v0 (S0.move rfl) rfl <| v0 (S0.cmp rfl rfl rfl) rfl <| v0 (S0.assign rfl) rfl <| vE <| ?_
  first | refine WP.condP rfl (fun h1 => ?_) (fun h1 => ?_) | refine WP.condN rfl (fun h1 => ?_) (fun h1 => ?_) | refine WP.cond rfl (fun h1 => ?_) (fun h1 => ?_)
  · refine WP.seq <| WP.region <| v0 (S0.move rfl) rfl <| v0 (S0.assign rfl) rfl <| v0 (S0.assign rfl) rfl <| v0 (S0.assign rfl) rfl <| vE <| WP.ret <| ?_
    refine r3 rfl rfl rfl rfl ⟨?_, rfl⟩
    unfold partB; rw [if_pos h1]; rfl
  · have h1' : ¬ (getV x 0).2.2 ≠ 0 := by simpa using h1
    obtain ⟨n, k, hg, hn, hk, hak, -⟩ := getV_ok (Decidable.not_not.1 h1')
    have q1 : (getV x 0).1 = (n : Int) := by rw [hg]
    have q2 : (getV x 0).2.1 = (k : Int) := by rw [hg]; simp
    have hp : partB x = if 1099511627776 < (n : Int) then (0, [], 4) else (n, x.drop k, 0) := by unfold partB; rw [if_neg h1', q1, q2, Int.toNat_natCast, Int.toNat_natCast]
    rw [q1, q2]
    refine WP.seq <| WP.region <| v0 (S0.move rfl) rfl <| v0 (S0.cmp rfl rfl rfl) rfl <| v0 (S0.assign rfl) rfl <| vE <| ?_
    first | refine WP.condP rfl (fun h2 => ?_) (fun h2 => ?_) | refine WP.condN rfl (fun h2 => ?_) (fun h2 => ?_) | refine WP.cond rfl (fun h2 => ?_) (fun h2 => ?_)
    · refine WP.seq <| WP.region <| v0 (S0.assign rfl) rfl <| v0 (S0.assign rfl) rfl <| v0 (S0.assign rfl) rfl <| vE <| WP.ret <| ?_
      refine r3 rfl rfl rfl rfl ⟨?_, rfl⟩
      rw [hp, if_pos (by omega)]; rfl
    · refine WP.skip <| WP.seq <| WP.drawP [(0, none), (1, none), (2, none), (3, none), (4, none), (5, none), (6, none), (7, none)] mixed (by kernel_rfl) (by kernel_rfl) (by kernel_rfl) take0 <| w0 rfl rfl rfl (S0.move rfl) rfl <| w0 rfl rfl rfl (S0.convI rfl (wrap_i64 (by omega))) rfl <| w0 rfl rfl rfl (S0.move rfl) rfl <| w0 rfl rfl rfl (S0.move rfl) rfl <| ?_
      refine w0 rfl rfl rfl (S0.sliceSt (i := k) (j := x.length) rfl rfl rfl ⟨by omega, Nat.le_refl _⟩) rfl <| ?_
      rw [show (x.drop k).take (x.length - k) = x.drop k from List.take_of_length_le (by rw [List.length_drop]; exact Nat.le_refl _)]
      refine w0 rfl rfl rfl (S0.assign rfl) rfl <| w0 rfl rfl rfl (S0.assign rfl) rfl <| w0 rfl rfl rfl (S0.assign rfl) rfl <| wE <| WP.ret <| ?_
      refine r3 rfl rfl rfl rfl ⟨?_, rfl⟩
      rw [hp, if_neg (by omega)]
theorem whead_spec {s : Str} (hs : s.length ≤ 65536) : FN Tryz.prog 77 [sv s] [] (is (.tuple ⟨[.int .i64 ((headB s).1 : Int), sv (headB s).2.1, .int .i64 (headB s).2.2]⟩) []) := by
  refine FN.intro 30 [(0, sv s)] Tryz.func77 rfl (enters Tryz.func77 (by kernel_rfl) rfl) Tryz.ntmps77 rfl rfl ?_
  refine WP.seq <| WP.region <| v0 (S0.assign rfl) rfl <| v0 (S0.assign rfl) rfl <| v0 (S0.assign rfl) rfl <| vE <| WP.seq <| WP.seq <| WP.region <| v0 (S0.move rfl) rfl <| v0 (S0.cmpS rfl rfl rfl) rfl <| vE <| ?_
  first | refine WP.condP rfl (fun h1 => ?_) (fun h1 => ?_) | refine WP.condN rfl (fun h1 => ?_) (fun h1 => ?_) | refine WP.cond rfl (fun h1 => ?_) (fun h1 => ?_)
  · refine WP.seq <| WP.region <| v0 (S0.assign rfl) rfl <| v0 (S0.assign rfl) rfl <| v0 (S0.assign rfl) rfl <| vE <| WP.ret <| ?_
    refine r3 rfl rfl rfl rfl ⟨?_, rfl⟩
    unfold headB; rw [if_pos h1]; rfl
  · have h1' : ¬ s = [] := by simpa using h1
    have hh : headB s = if (openB s 0).2.2 ≠ 0 then (0, [], (openB s 0).2.2) else if (openB s 0).2.1 ≠ (s.length : Int) then (0, [], 4) else partB (openB s 0).1 := by unfold headB; rw [if_neg h1']
    refine WP.skip <| WP.seq <| WP.region <| v0 (S0.move rfl) rfl <| ?_
    refine vcd (S1.callF rfl (opens_spec (s := s) (a := 0) (by omega) (by omega)) take0) rfl ?_
    refine v0 (S0.move rfl) rfl <| v0 (S0.extract rfl rfl) rfl <| v0 (S0.extract rfl rfl) rfl <| v0 (S0.extract rfl rfl) rfl <| v0 (S0.assign rfl) rfl <| v0 (S0.assign rfl) rfl <| v0 (S0.assign rfl) rfl <| vE <| WP.seq <| WP.block <| WP.seq <| WP.region <| v0 (S0.move rfl) rfl <| v0 (S0.cmp rfl rfl rfl) rfl <| v0 (S0.assign rfl) rfl <| vE <| ?_
    first | refine WP.condP rfl (fun h2 => ?_) (fun h2 => ?_) | refine WP.condN rfl (fun h2 => ?_) (fun h2 => ?_) | refine WP.cond rfl (fun h2 => ?_) (fun h2 => ?_)
    · refine WP.seq <| WP.region <| v0 (S0.move rfl) rfl <| v0 (S0.assign rfl) rfl <| v0 (S0.assign rfl) rfl <| v0 (S0.assign rfl) rfl <| vE <| WP.ret <| ?_
      refine r3 rfl rfl rfl rfl ⟨?_, rfl⟩
      rw [hh, if_pos h2]; rfl
    · have h2' : ¬ (openB s 0).2.2 ≠ 0 := by simpa using h2
      obtain ⟨x, b, ho, -, hb, -, hx⟩ := openB_ok (Decidable.not_not.1 h2')
      rw [if_neg h2', ho] at hh
      dsimp only at hh
      rw [ho]
      refine WP.seq <| WP.region <| v0 (S0.move rfl) rfl <| v0 (S0.move rfl) rfl <| v0 (S0.lenSt rfl) rfl <| v0 (S0.cmp rfl rfl rfl) rfl <| v0 (S0.assign rfl) rfl <| vE <| ?_
      first | refine WP.condP rfl (fun h3 => ?_) (fun h3 => ?_) | refine WP.condN rfl (fun h3 => ?_) (fun h3 => ?_) | refine WP.cond rfl (fun h3 => ?_) (fun h3 => ?_)
      · dsimp only at h3
        refine WP.seq <| WP.region <| v0 (S0.assign rfl) rfl <| v0 (S0.assign rfl) rfl <| v0 (S0.assign rfl) rfl <| vE <| WP.ret <| ?_
        refine r3 rfl rfl rfl rfl ⟨?_, rfl⟩
        rw [hh, if_pos (by omega)]; rfl
      · dsimp only at h3
        rw [if_neg (by omega)] at hh
        refine WP.skip <| WP.seq <| WP.region <| v0 (S0.move rfl) rfl <| ?_
        refine vcd (S1.callF rfl (parted_spec (x := x) (by omega)) take0) rfl ?_
        refine v0 (S0.extract rfl rfl) rfl <| v0 (S0.extract rfl rfl) rfl <| v0 (S0.extract rfl rfl) rfl <| v0 (S0.assign rfl) rfl <| v0 (S0.assign rfl) rfl <| v0 (S0.assign rfl) rfl <| vE <| WP.ret <| ?_
        refine r3 rfl rfl rfl rfl ⟨?_, rfl⟩
        rw [hh]
abbrev rdrC (ba bl br : Nat) (v : Value) (a rd : Nat) : List Blk := [(ba, cel [.int .i64 (a : Int)] 3), (bl, cel [v] 59), (br, cel [.int .i64 (rd : Int)] 3)]
theorem wreader_spec {va : Option Addr} {n cap rd : Nat} : FN Tryz.prog 79 [.slice va n cap, .int .i64 (rd : Int)] [] (fun u h => ∃ ba bl br, u = .func (.func 120) ⟨[]⟩ ⟨[ptrB ba, ptrB bl, ptrB br]⟩ ∧ h = [rdrC ba bl br (.slice va n cap) 0 rd]) := by
  refine FN.intro 7 [(0, .slice va n cap), (1, .int .i64 (rd : Int))] Tryz.func79 rfl (enters Tryz.func79 (by kernel_rfl) rfl) Tryz.ntmps79 rfl rfl ?_
  refine WP.seq <| WP.region <| vn (S1.box rfl rfl) rfl fun b2 => vn (S1.box rfl rfl) rfl fun b3 => v0 (S0.assign rfl) rfl <| vE <| WP.seq <| WP.region <| vn (S1.alloc) rfl fun b5 => vs (S1.store rfl rfl (by first | rfl | exact IsSl.cv (by assumption))) <| vE <| WP.seq <| WP.region <| v0 (S0.makeFunc rfl rfl) rfl <| v0 (S0.assign rfl) rfl <| vE <| WP.ret <| ?_
  refine Leaves.drop (h' := [[(b5, cel [.int .i64 0] 3), (b2, cel [.slice va n cap] 59), (b3, cel [.int .i64 (rd : Int)] 3)]]) (k := []) (pm fun a_ => by (try simp only [List.flatten_append, List.flatten_cons, List.flatten_nil, List.append_nil, List.cons_append, List.nil_append, List.append_assoc, nOf_app, nOf_cons, nOf_nil, Nat.add_zero, Nat.zero_add, List.map_append, List.map_cons, List.map_nil, cel, sv]); first | done | omega) ?_
  refine r1 rfl rfl ?_
  exact ⟨b5, b2, b3, rfl, rfl⟩
structure NextR (rd : Nat) (L : List Str) (a : Nat) (x : Str) (b : Bool) (a' : Nat) : Prop where
  le : a ≤ a' ∧ a' ≤ L.length
  t : b = true → a < a' ∧ recsB rd (L.drop a) = x :: recsB rd (L.drop a')
  f : b = false → recsB rd (L.drop a) = []
theorem wnext_spec {ba bl br rd a : Nat} (hr : rd < 4611686018427387904) {v : Value} {L : List Str} {row : List Blk} (hs : IsSl 9 1 v (strs L) row) (hL : ∀ x ∈ L, x.length ≤ 65536) (hl : L.length ≤ 1000000) (ha : a ≤ L.length) :
    FN Tryz.prog 120 [ptrB ba, ptrB bl, ptrB br] [rdrC ba bl br v a rd, row] (fun u h => ∃ x b a', NextR rd L a x b a' ∧ u = .tuple ⟨[sv x, .bool b]⟩ ∧ h = [rdrC ba bl br v a' rd, row]) := by
  obtain ⟨va, cap, rfl, hcap, hrow⟩ := hs.strsE
  refine FN.intro 37 [(0, ptrB ba), (1, ptrB bl), (2, ptrB br)] Tryz.func120 rfl (enters Tryz.func120 (by kernel_rfl) rfl) Tryz.ntmps120 rfl rfl ?_
  refine WP.seq <| WP.region <| v0 (S0.assign rfl) rfl <| v0 (S0.assign rfl) rfl <| vE <| WP.seq <| WP.block <| ?_
  refine WP.loop (fun i : Nat => a ≤ i ∧ i ≤ L.length ∧ recsB rd (L.drop a) = recsB rd (L.drop i)) (fun i : Nat => [(0, ptrB ba), (1, ptrB bl), (2, ptrB br)]) (fun i : Nat => [rdrC ba bl br (.slice va L.length cap) i rd, row]) (fun i : Nat => L.length - i) (a) (⟨Nat.le_refl _, ha, rfl⟩) ⟨rfl, rfl, rfl, trivial⟩ ⟨_, (take1 at0 (take1 at0 take0))⟩ (fun i hinv => ?_)
  obtain ⟨hai, hi, hrec⟩ := hinv
  refine WP.seq <| WP.seq <| WP.region <| v0 (S0.load rfl rfl) rfl <| v0 (S0.load rfl rfl) rfl <| v0 (S0.lenSl rfl) rfl <| v0 (S0.cmp rfl rfl rfl) rfl <| vE <| ?_
  first | refine WP.condP rfl (fun h1 => ?_) (fun h1 => ?_) | refine WP.condN rfl (fun h1 => ?_) (fun h1 => ?_) | refine WP.cond rfl (fun h1 => ?_) (fun h1 => ?_)
  · have hlt : i < L.length := by omega
    rcases hrow with ⟨rfl, -⟩ | ⟨b1, sp1, rfl, rfl, hsp1⟩
    · simp at hlt
    have hx : L[i]? = some L[i] := by simp [hlt]
    have hxl := hL _ (List.getElem_mem hlt)
    have hdr : L.drop i = L[i] :: L.drop (i + 1) := List.drop_eq_getElem_cons hlt
    generalize L[i] = x at hx hxl hdr
    rw [hdr, recsB] at hrec
    refine WP.skip <| WP.block <| WP.seq <| WP.region <| v0 (S0.load rfl rfl) rfl <| v0 (S0.load rfl rfl) rfl <| ?_
    refine v0 (S0.index1 rfl rfl hlt) rfl <| ?_
    refine v0 (S0.load rfl (strs_get hx)) rfl <| ?_
    refine vcd (S1.callF rfl (get_spec (s := x) (a := 0) (by omega) (by omega)) take0) rfl ?_
    refine v0 (S0.move rfl) rfl <| v0 (S0.extract rfl rfl) rfl <| v0 (S0.extract rfl rfl) rfl <| v0 (S0.extract rfl rfl) rfl <| v0 (S0.assign rfl) rfl <| v0 (S0.assign rfl) rfl <| v0 (S0.assign rfl) rfl <| vE <| WP.seq <| WP.seq <| WP.region <| v0 (S0.move rfl) rfl <| v0 (S0.cmp rfl rfl rfl) rfl <| vE <| ?_
    first | refine WP.condP rfl (fun h2 => ?_) (fun h2 => ?_) | refine WP.condN rfl (fun h2 => ?_) (fun h2 => ?_) | refine WP.cond rfl (fun h2 => ?_) (fun h2 => ?_)
    · rw [if_pos h2] at hrec
      refine WP.exit <| WP.seq <| WP.region <| v0 (S0.assign rfl) rfl <| v0 (S0.assign rfl) rfl <| vE <| WP.ret <| ?_
      refine r2 rfl rfl rfl ?_
      exact ⟨[], false, i, ⟨⟨hai, hi⟩, by simp, fun _ => hrec⟩, rfl, rfl⟩
    · have h2' : ¬ (getV x 0).2.2 ≠ 0 := by simpa using h2
      rw [if_neg h2'] at hrec
      obtain ⟨n, k, hg, hn, hk, hak, -⟩ := getV_ok (Decidable.not_not.1 h2')
      have q1 : (getV x 0).1 = (n : Int) := by rw [hg]
      have q2 : (getV x 0).2.1 = (k : Int) := by rw [hg]; simp
      rw [q1, q2, Int.toNat_natCast] at hrec
      rw [q1, q2]
      refine WP.skip <| WP.seq <| WP.region <| v0 (S0.load rfl rfl) rfl <| v0 (S0.load rfl rfl) rfl <| ?_
      refine v0 (S0.index1 rfl rfl hlt) rfl <| ?_
      refine v0 (S0.load rfl (strs_get hx)) rfl <| ?_
      refine v0 (S0.move rfl) rfl <| ?_
      refine v0 (S0.sliceSt (i := k) (j := x.length) rfl rfl rfl ⟨by omega, Nat.le_refl _⟩) rfl <| ?_
      rw [show (x.drop k).take (x.length - k) = x.drop k from List.take_of_length_le (by rw [List.length_drop]; exact Nat.le_refl _)]
      refine v0 (S0.assign rfl) rfl <| vE <| WP.seq <| WP.region <| v0 (S0.load rfl rfl) rfl <| v0 (S0.ari rfl rfl rfl (wrap_i64 (by omega))) rfl <| vs (S1.store rfl rfl (by first | rfl | exact IsSl.cv (by assumption))) <| vE <| WP.seq <| WP.region <| v0 (S0.move rfl) rfl <| v0 (S0.load rfl rfl) rfl <| v0 (S0.convI rfl (wrap_u64 (by omega))) rfl <| v0 (S0.cmp rfl rfl rfl) rfl <| vE <| ?_
      first | refine WP.condP rfl (fun h3 => ?_) (fun h3 => ?_) | refine WP.condN rfl (fun h3 => ?_) (fun h3 => ?_) | refine WP.cond rfl (fun h3 => ?_) (fun h3 => ?_)
      · rw [if_pos (by omega)] at hrec
        refine WP.seq <| WP.region <| v0 (S0.move rfl) rfl <| v0 (S0.assign rfl) rfl <| v0 (S0.assign rfl) rfl <| vE <| WP.ret <| ?_
        refine r2 rfl rfl rfl ?_
        exact ⟨x.drop k, true, i + 1, ⟨⟨by omega, hlt⟩, fun _ => ⟨by omega, hrec⟩, by simp⟩, rfl, rfl⟩
      · rw [if_neg (by omega)] at hrec
        refine WP.skip <| ?_
        exact ⟨i + 1, (by first | exact ⟨by omega, hlt, hrec⟩ | (dsimp only; exact ⟨by omega, hlt, hrec⟩)), (show L.length - (i + 1) < L.length - i by omega), ⟨⟨rfl, rfl, rfl, trivial⟩, rfl, rfl⟩, ⟨_, (take1 at0 (take1 at0 take0))⟩⟩
  · have e : i = L.length := by omega
    rw [e, List.drop_length] at hrec
    refine WP.exit <| WP.seq <| WP.region <| v0 (S0.assign rfl) rfl <| v0 (S0.assign rfl) rfl <| vE <| WP.ret <| ?_
    refine r2 rfl rfl rfl ?_
    exact ⟨[], false, i, ⟨⟨hai, hi⟩, by simp, fun _ => hrec⟩, rfl, rfl⟩
end Go.Proofs.YtjpjebfodhbdfaaGreatDoor
namespace Go.Proofs.YtjpjebfodhbdfaaGreatDoor
open Go
abbrev lgB (lb db : Nat) (rd : Nat) (st : Str) (v : Value) (sure : Int) : Blk := (lb, .cells ⟨[ptrB db, .int .i64 (rd : Int), sv st, v, .int .i64 sure]⟩ 116 (0, 0))
def IsLog (lb db : Nat) (G : Lg) (c : List Blk) : Prop := ∃ v row, IsSl 9 1 v (strs G.l) row ∧ c = lgB lb db G.rd G.st v G.sure :: row
structure LgOk (G : Lg) : Prop where
  rd : G.rd ≤ 2000000000000
  l : G.l.length ≤ 900000
theorem wstate_spec {lb db : Nat} {G : Lg} {c : List Blk} (h : IsLog lb db G c) : FN Tryz.prog 38 [ptrB lb] [c] (is (sv G.st) [c]) := by
  obtain ⟨v, row, hs, rfl⟩ := h
  refine FN.intro 7 [(0, ptrB lb)] Tryz.func38 rfl (enters Tryz.func38 (by kernel_rfl) rfl) Tryz.ntmps38 rfl rfl ?_
  refine WP.seq <| WP.region <| v0 (S0.assign rfl) rfl <| vE <| WP.seq <| WP.region <| v0 (S0.move rfl) rfl <| v0 (S0.nilCheck rfl) rfl <| v0 (S0.fieldAddr rfl) rfl <| v0 (S0.load rfl rfl) rfl <| v0 (S0.assign rfl) rfl <| vE <| WP.ret <| ?_
  refine r1 rfl rfl ⟨?_, rfl⟩
  rfl
theorem wsync_spec {lb db : Nat} {G : Lg} {c : List Blk} (h : IsLog lb db G c) {D : Dk} {dc : List Blk} (hd : IsDisk db D dc) : FN Tryz.prog 61 [ptrB lb] [c, dc] (fun _ h => ∃ c' dc', IsLog lb db (syncLg G) c' ∧ IsDisk db (syncK D) dc' ∧ h = [c', dc']) := by
  obtain ⟨v, row, hs, rfl⟩ := h
  obtain ⟨a, cap, rfl, hcap, -⟩ := hs.strsE
  refine FN.intro 15 [(0, ptrB lb)] Tryz.func61 rfl (enters Tryz.func61 (by kernel_rfl) rfl) Tryz.ntmps61 rfl rfl ?_
  refine WP.seq <| WP.region <| v0 (S0.move rfl) rfl <| v0 (S0.nilCheck rfl) rfl <| v0 (S0.fieldAddr rfl) rfl <| v0 (S0.load rfl rfl) rfl <| ?_
  refine vc (S1.callF rfl (dsync_spec hd) (take1 (atS at0) take0)) rfl ?_
  rintro _ _ ⟨dc2, hd2, rfl⟩
  refine app ?_
  refine vE <| WP.region <| v0 (S0.move rfl) rfl <| v0 (S0.move rfl) rfl <| v0 (S0.nilCheck rfl) rfl <| v0 (S0.fieldAddr rfl) rfl <| v0 (S0.load rfl rfl) rfl <| v0 (S0.lenSl rfl) rfl <| v0 (S0.nilCheck rfl) rfl <| v0 (S0.fieldAddr rfl) rfl <| vs (S1.store rfl rfl (by first | rfl | exact IsSl.cv (by assumption))) <| vE <| ?_
  refine Leaves.drop (take1 (atS at0) (take1 at0 take0)) ?_
  refine r0 rfl ?_
  exact ⟨_, dc2, ⟨_, row, hs, rfl⟩, hd2, rfl⟩
theorem wrecords_spec {lb db : Nat} {G : Lg} {c : List Blk} (h : IsLog lb db G c) (ho : LgOk G) : FN Tryz.prog 40 [ptrB lb] [c] (fun u h => ∃ row, IsSl 9 1 u (strs G.l) row ∧ h = [row, c]) := by
  obtain ⟨v, row, hs, rfl⟩ := h
  have hl := ho.l
  refine FN.intro 8 [(0, ptrB lb)] Tryz.func40 rfl (enters Tryz.func40 (by kernel_rfl) rfl) Tryz.ntmps40 rfl rfl ?_
  refine WP.perm (h' := [row, [lgB lb db G.rd G.st v G.sure]]) (k := []) (pm fun a_ => by (try simp only [List.flatten_append, List.flatten_cons, List.flatten_nil, List.append_nil, List.cons_append, List.nil_append, List.append_assoc, nOf_app, nOf_cons, nOf_nil, Nat.add_zero, Nat.zero_add, List.map_append, List.map_cons, List.map_nil, cel, sv]); first | done | omega) ?_
  refine WP.seq <| WP.region <| v0 (S0.assign rfl) rfl <| vE <| WP.seq <| WP.region <| v0 (S0.move rfl) rfl <| v0 (S0.nilCheck rfl) rfl <| v0 (S0.fieldAddr rfl) rfl <| v0 (S0.load rfl rfl) rfl <| ?_
  refine vc (S1.callF rfl (clone_spec hs (by omega)) (take1 at0 take0)) rfl ?_
  rintro v2 _ ⟨row2, hs2, rfl⟩
  refine app ?_
  refine v0 (S0.assign rfl) rfl <| vE <| WP.ret <| ?_
  refine Leaves.drop (h' := [row2, lgB lb db G.rd G.st v G.sure :: row]) (k := []) (pm fun a_ => by (try simp only [List.flatten_append, List.flatten_cons, List.flatten_nil, List.append_nil, List.cons_append, List.nil_append, List.append_assoc, nOf_app, nOf_cons, nOf_nil, Nat.add_zero, Nat.zero_add, List.map_append, List.map_cons, List.map_nil, cel, sv]); first | done | omega) ?_
  refine r1 rfl rfl ?_
  exact ⟨row2, hs2, rfl⟩
theorem wappend_spec {lb db : Nat} {G : Lg} {c : List Blk} (h : IsLog lb db G c) (ho : LgOk G) {D : Dk} {dc : List Blk} (hd : IsDisk db D dc) (hk : DkOk D) (hW : D.W.length ≤ 1000000) (s : Str) : FN Tryz.prog 98 [ptrB lb, sv s] [c, dc] (fun u h => ∃ c' dc', IsLog lb db (appendLg G D s).2.1 c' ∧ IsDisk db (appendLg G D s).2.2 dc' ∧ u = .int .i64 (appendLg G D s).1 ∧ h = [c', dc']) := by
  have h0 := h
  have hrd := ho.rd
  have hgl := ho.l
  obtain ⟨v, row, hs, rfl⟩ := h
  obtain ⟨a, cap, rfl, hcap, hrow⟩ := hs.strsE
  refine FN.intro 42 [(0, ptrB lb), (1, sv s)] Tryz.func98 rfl (enters Tryz.func98 (by kernel_rfl) rfl) Tryz.ntmps98 rfl rfl ?_
  refine WP.seq <| WP.region <| v0 (S0.assign rfl) rfl <| vE <| WP.seq <| WP.seq <| WP.region <| v0 (S0.move rfl) rfl <| v0 (S0.lenSt rfl) rfl <| v0 (S0.cmp rfl rfl rfl) rfl <| vE <| ?_
  first | refine WP.condP rfl (fun h1 => ?_) (fun h1 => ?_) | refine WP.condN rfl (fun h1 => ?_) (fun h1 => ?_) | refine WP.cond rfl (fun h1 => ?_) (fun h1 => ?_)
  · have e : appendLg G D s = (2, G, D) := by unfold appendLg; rw [if_pos (by omega)]
    refine WP.seq <| WP.region <| v0 (S0.assign rfl) rfl <| vE <| WP.ret <| ?_
    refine r1 rfl rfl ?_
    rw [e]; exact ⟨_, dc, h0, hd, rfl, rfl⟩
  · have e : appendLg G D s = if (appendK D 1 (rowB G.rd s)).1 ≠ 0 then ((appendK D 1 (rowB G.rd s)).1, G, D) else (0, { G with l := G.l ++ [s] }, (appendK D 1 (rowB G.rd s)).2) := by unfold appendLg; rw [if_neg (by omega)]
    refine WP.skip <| WP.seq <| WP.seq <| WP.drawP [(0, none), (1, none), (2, none), (3, none), (4, none), (5, none), (6, none), (7, none), (8, none), (9, none), (10, none), (11, none)] mixed (by kernel_rfl) (by kernel_rfl) (by kernel_rfl) (take1 at0 take0) <| w0 rfl rfl rfl (S0.move rfl) rfl <| w0 rfl rfl rfl (S0.nilCheck rfl) rfl <| w0 rfl rfl rfl (S0.fieldAddr rfl) rfl <| w0 rfl rfl rfl (S0.load rfl rfl) rfl <| w0 rfl rfl rfl (S0.move rfl) rfl <| w0 rfl rfl rfl (S0.nilCheck rfl) rfl <| w0 rfl rfl rfl (S0.fieldAddr rfl) rfl <| w0 rfl rfl rfl (S0.load rfl rfl) rfl <| w0 rfl rfl rfl (S0.move rfl) rfl <| ?_
    refine wcd rfl rfl rfl rfl (S1.callF rfl (wrow_spec (rd := G.rd) (by omega) (s := s) (by omega)) take0) rfl ?_
    refine wc rfl rfl rfl rfl (S1.callF rfl (append_spec hd hk hW (f := 1) (by omega) (rowB G.rd s)) (take1 at0 take0)) rfl ?_
    rintro _ _ ⟨dc2, hd2, rfl, rfl⟩
    refine wapp ?_
    refine w0 rfl rfl rfl (S0.assign rfl) rfl <| wE <| WP.seq <| WP.region <| v0 (S0.move rfl) rfl <| v0 (S0.cmp rfl rfl rfl) rfl <| vE <| ?_
    first | refine WP.condP rfl (fun h2 => ?_) (fun h2 => ?_) | refine WP.condN rfl (fun h2 => ?_) (fun h2 => ?_) | refine WP.cond rfl (fun h2 => ?_) (fun h2 => ?_)
    · rw [if_pos h2] at e
      have e2 : (appendK D 1 (rowB G.rd s)).2 = D := by
        unfold appendK at h2 ⊢
        by_cases hc : 65536 < (D.now.get 1).length + (rowB G.rd s).length
        · rw [if_pos hc]
        · rw [if_neg hc] at h2; exact absurd rfl h2
      rw [e2] at hd2
      refine WP.seq <| WP.region <| v0 (S0.move rfl) rfl <| v0 (S0.assign rfl) rfl <| vE <| WP.ret <| ?_
      refine r1 rfl rfl ?_
      rw [e]; exact ⟨_, dc2, h0, hd2, rfl, rfl⟩
    · rw [if_neg (by simpa using h2)] at e
      have hsrc : (a = none ∧ G.l.length = 0 ∧ strs G.l = []) ∨ ∃ b l U fz, a = some ⟨b, 0, none⟩ ∧ (b, Obj.cells ⟨l⟩ U fz) ∈ row ∧ G.l.length ≤ l.length ∧ l.take G.l.length = strs G.l := by
        rcases hrow with ⟨e1, -, e2, -⟩ | ⟨b, sp, e1, e2, -⟩
        · exact .inl ⟨e2, by rw [e1]; rfl, by rw [e1]; rfl⟩
        · exact .inr ⟨b, strs G.l ++ sp, 9, (0, 0), e1, by rw [e2]; simp, by rw [List.length_append, strs_len]; omega, by rw [← strs_len G.l, List.take_left]⟩
      have ha : a = none ∨ ∃ b, a = some ⟨b, 0, none⟩ := hsrc.imp (·.1) fun ⟨b, _, _, _, e1, _⟩ => ⟨b, e1⟩
      refine WP.skip <| WP.seq <| WP.region <| v0 (S0.move rfl) rfl <| v0 (S0.nilCheck rfl) rfl <| v0 (S0.fieldAddr rfl) rfl <| v0 (S0.load rfl rfl) rfl <| v0 (S0.lenSl rfl) rfl <| v0 (S0.assign rfl) rfl <| vE <| WP.seq <| WP.region <| v0 (S0.move rfl) rfl <| v0 (S0.move rfl) rfl <| v0 (S0.nilCheck rfl) rfl <| v0 (S0.fieldAddr rfl) rfl <| v0 (S0.load rfl rfl) rfl <| v0 (S0.move rfl) rfl <| v0 (S0.move rfl) rfl <| ?_
      refine v0 (S0.slice3Z rfl ha rfl rfl (Nat.le_refl _) hcap) rfl <| ?_
      refine v0 (S0.move rfl) rfl <| vnv (S1.buildSlice rfl (qs := [(0, _)]) rfl rfl) rfl fun b38 => ?_
      refine ve (S1.appendOut rfl (hsrc.imp id fun ⟨b, l, U, fz, e1, hm, h3⟩ => ⟨b, l, U, fz, e1, by simp [hm], h3⟩) rfl rfl (by decide) rfl (by omega)) rfl ?_
      rintro v2 _ ⟨row2, hs2, rfl⟩
      refine v0 (S0.nilCheck rfl) rfl <| v0 (S0.fieldAddr rfl) rfl <| vs (S1.store rfl rfl (by first | rfl | exact IsSl.cv (by assumption))) <| vE <| WP.seq <| WP.region <| v0 (S0.assign rfl) rfl <| vE <| WP.ret <| ?_
      refine Leaves.drop (h' := [lgB lb db G.rd G.st v2 G.sure :: row2, dc2]) (k := [[(b38, .cells ⟨[sv s]⟩ 9 (0, 0))], row]) (pm fun a_ => by (try simp only [List.flatten_append, List.flatten_cons, List.flatten_nil, List.append_nil, List.cons_append, List.nil_append, List.append_assoc, nOf_app, nOf_cons, nOf_nil, Nat.add_zero, Nat.zero_add, List.map_append, List.map_cons, List.map_nil, cel, sv, lgB]); first | done | omega) ?_
      refine r1 rfl rfl ?_
      rw [e]; exact ⟨_, dc2, ⟨v2, row2, by simpa [strs] using hs2, rfl⟩, hd2, rfl, rfl⟩
theorem wcheck_spec {lb db : Nat} {G : Lg} {c : List Blk} (h : IsLog lb db G c) (ho : LgOk G) {D : Dk} {dc : List Blk} (hd : IsDisk db D dc) (hk : DkG D) (hW : D.W.length ≤ 900000) (s : Str) : FN Tryz.prog 96 [ptrB lb, sv s] [c, dc] (fun u h => ∃ c' dc', IsLog lb db (checkLg G D s).2.1 c' ∧ IsDisk db (checkLg G D s).2.2 dc' ∧ u = .int .i64 (checkLg G D s).1 ∧ h = [c', dc']) := by
  have h0 := h
  have hrd := ho.rd
  obtain ⟨v, row, hs, rfl⟩ := h
  obtain ⟨a, cap, rfl, hcap, hrow⟩ := hs.strsE
  refine FN.intro 42 [(0, ptrB lb), (1, sv s)] Tryz.func96 rfl (enters Tryz.func96 (by kernel_rfl) rfl) Tryz.ntmps96 rfl rfl ?_
  refine WP.seq <| WP.region <| v0 (S0.assign rfl) rfl <| vE <| WP.seq <| WP.seq <| WP.region <| v0 (S0.move rfl) rfl <| v0 (S0.lenSt rfl) rfl <| v0 (S0.cmp rfl rfl rfl) rfl <| vE <| ?_
  first | refine WP.condP rfl (fun h1 => ?_) (fun h1 => ?_) | refine WP.condN rfl (fun h1 => ?_) (fun h1 => ?_) | refine WP.cond rfl (fun h1 => ?_) (fun h1 => ?_)
  · have e : checkLg G D s = (2, G, D) := by unfold checkLg; rw [if_pos (by omega)]
    refine WP.seq <| WP.region <| v0 (S0.assign rfl) rfl <| vE <| WP.ret <| ?_
    refine r1 rfl rfl ?_
    rw [e]; exact ⟨_, dc, h0, hd, rfl, rfl⟩
  · have e : checkLg G D s = (0, ⟨G.rd + 1, s, [], 0⟩, (replaceK (replaceK D 0 (rowB (G.rd + 1) s)).2 1 []).2) := by unfold checkLg; rw [if_neg (by omega)]
    refine WP.perm (h' := [[lgB lb db G.rd G.st (.slice a G.l.length cap) G.sure], row, dc]) (k := []) (pm fun a_ => by (try simp only [List.flatten_append, List.flatten_cons, List.flatten_nil, List.append_nil, List.cons_append, List.nil_append, List.append_assoc, nOf_app, nOf_cons, nOf_nil, Nat.add_zero, Nat.zero_add, List.map_append, List.map_cons, List.map_nil, cel, sv]); first | done | omega) ?_
    refine WP.skip <| WP.seq <| WP.region <| v0 (S0.move rfl) rfl <| v0 (S0.move rfl) rfl <| v0 (S0.move rfl) rfl <| v0 (S0.move rfl) rfl <| v0 (S0.move rfl) rfl <| v0 (S0.nilCheck rfl) rfl <| v0 (S0.fieldAddr rfl) rfl <| v0 (S0.load rfl rfl) rfl <| v0 (S0.ari rfl rfl rfl (wrap_i64 (by omega))) rfl <| v0 (S0.move rfl) rfl <| v0 (S0.nilCheck rfl) rfl <| v0 (S0.fieldAddr rfl) rfl <| vs (S1.store rfl rfl (by first | rfl | exact IsSl.cv (by assumption))) <| v0 (S0.nilCheck rfl) rfl <| v0 (S0.fieldAddr rfl) rfl <| vs (S1.store rfl rfl (by first | rfl | exact IsSl.cv (by assumption))) <| v0 (S0.nilCheck rfl) rfl <| v0 (S0.fieldAddr rfl) rfl <| vs (S1.store rfl rfl (by first | rfl | exact IsSl.cv (by assumption))) <| v0 (S0.nilCheck rfl) rfl <| v0 (S0.fieldAddr rfl) rfl <| vs (S1.store rfl rfl (by first | rfl | exact IsSl.cv (by assumption))) <| vE <| ?_
    refine WP.seq <| WP.drawP [(0, none), (1, none), (2, none), (3, none), (4, none), (5, none), (6, none), (7, none), (8, none), (9, none), (10, none)] mixed (by kernel_rfl) (by kernel_rfl) (by kernel_rfl) (take1 at0 take0) <| w0 rfl rfl rfl (S0.move rfl) rfl <| w0 rfl rfl rfl (S0.nilCheck rfl) rfl <| w0 rfl rfl rfl (S0.fieldAddr rfl) rfl <| w0 rfl rfl rfl (S0.load rfl rfl) rfl <| w0 rfl rfl rfl (S0.move rfl) rfl <| w0 rfl rfl rfl (S0.nilCheck rfl) rfl <| w0 rfl rfl rfl (S0.fieldAddr rfl) rfl <| w0 rfl rfl rfl (S0.load rfl rfl) rfl <| w0 rfl rfl rfl (S0.move rfl) rfl <| ?_
    rw [show (G.rd : Int) + 1 = ((G.rd + 1 : Nat) : Int) by omega]
    refine wcd rfl rfl rfl rfl (S1.callF rfl (wrow_spec (rd := G.rd + 1) (by omega) (s := s) (by omega)) take0) rfl ?_
    have hw1 := replace_W D 0 (rowB (G.rd + 1) s)
    refine wc rfl rfl rfl rfl (S1.callF rfl (replace_spec hd hk.ok (by omega) (f := 0) (by omega) (rowB (G.rd + 1) s)) (take1 (atS at0) take0)) rfl ?_
    rintro _ _ ⟨dc2, hd2, rfl, rfl⟩
    refine wapp ?_
    refine wE <| WP.seq <| WP.region <| v0 (S0.move rfl) rfl <| v0 (S0.nilCheck rfl) rfl <| v0 (S0.fieldAddr rfl) rfl <| v0 (S0.load rfl rfl) rfl <| ?_
    refine vc (S1.callF rfl (replace_spec hd2 (hk.replace (by omega) _).ok (by omega) (f := 1) (by omega) []) (take1 (atS at0) take0)) rfl ?_
    rintro _ _ ⟨dc3, hd3, rfl, rfl⟩
    refine app ?_
    refine vE <| WP.seq <| WP.region <| v0 (S0.assign rfl) rfl <| vE <| WP.ret <| ?_
    refine Leaves.drop (take1 (atS at0) (take1 at0 take0)) ?_
    refine r1 rfl rfl ?_
    rw [e]; exact ⟨_, dc3, ⟨.slice none 0 0, [], IsSl.nil, rfl⟩, hd3, rfl, rfl⟩
theorem wopen_spec {db : Nat} {D : Dk} {dc : List Blk} (hd : IsDisk db D dc) (hk : DkG D) (hW : D.W.length ≤ 900000) : FN Tryz.prog 36 [ptrB db] [dc] (fun u h => ((openLg D).1 ≠ 0 ∧ u = .tuple ⟨[.pointer none, .int .i64 (openLg D).1]⟩ ∧ h = [dc]) ∨
    ((openLg D).1 = 0 ∧ ∃ lb lc dc', IsLog lb db (openLg D).2.1 lc ∧ IsDisk db (openLg D).2.2 dc' ∧ u = .tuple ⟨[ptrB lb, .int .i64 0]⟩ ∧ h = [lc, dc'])) := by
  have hn0 := hk.ok.now 0
  have hn1 := hk.ok.now 1
  obtain ⟨hrd, hst⟩ := head_le hn0
  obtain ⟨hal, han⟩ := allB_le (D.now.get 1)
  have ho : openLg D = if (headB (D.now.get 0)).2.2 ≠ 0 then ((headB (D.now.get 0)).2.2, ⟨0, [], [], 0⟩, D) else (0, ⟨(headB (D.now.get 0)).1, (headB (D.now.get 0)).2.1, recsB (headB (D.now.get 0)).1 (allB (D.now.get 1)), (recsB (headB (D.now.get 0)).1 (allB (D.now.get 1))).length⟩, syncK (if textL (headB (D.now.get 0)).1 (recsB (headB (D.now.get 0)).1 (allB (D.now.get 1))) ≠ D.now.get 1 then (replaceK D 1 (textL (headB (D.now.get 0)).1 (recsB (headB (D.now.get 0)).1 (allB (D.now.get 1))))).2 else D)) := rfl
  refine FN.intro 74 [(0, ptrB db)] Tryz.func36 rfl (enters Tryz.func36 (by kernel_rfl) rfl) Tryz.ntmps36 rfl rfl ?_
  refine WP.seq <| WP.region <| v0 (S0.assign rfl) rfl <| v0 (S0.assign rfl) rfl <| vE <| WP.seq <| WP.region <| v0 (S0.move rfl) rfl <| ?_
  refine vcd (S1.callF rfl (dread_spec hd (f := 0) (by omega)) (take1 at0 take0)) rfl ?_
  refine vcd (S1.callF rfl (whead_spec hn0) take0) rfl ?_
  generalize (headB (D.now.get 0)).1 = rd at hrd ho
  generalize (headB (D.now.get 0)).2.1 = st at hst ho
  generalize (headB (D.now.get 0)).2.2 = er at ho
  refine v0 (S0.move rfl) rfl <| v0 (S0.extract rfl rfl) rfl <| v0 (S0.extract rfl rfl) rfl <| v0 (S0.extract rfl rfl) rfl <| v0 (S0.assign rfl) rfl <| v0 (S0.assign rfl) rfl <| v0 (S0.assign rfl) rfl <| vE <| WP.seq <| WP.seq <| WP.region <| v0 (S0.move rfl) rfl <| v0 (S0.cmp rfl rfl rfl) rfl <| vE <| ?_
  first | refine WP.condP rfl (fun h1 => ?_) (fun h1 => ?_) | refine WP.condN rfl (fun h1 => ?_) (fun h1 => ?_) | refine WP.cond rfl (fun h1 => ?_) (fun h1 => ?_)
  · rw [if_pos h1] at ho
    refine WP.seq <| WP.region <| v0 (S0.move rfl) rfl <| v0 (S0.assign rfl) rfl <| v0 (S0.assign rfl) rfl <| vE <| WP.ret <| ?_
    refine r2 rfl rfl rfl ?_
    rw [ho]; exact .inl ⟨h1, rfl, rfl⟩
  · have h1' : er = 0 := by simpa using h1
    subst h1'
    rw [if_neg (by simp)] at ho
    refine WP.skip <| WP.seq <| WP.region <| v0 (S0.move rfl) rfl <| v0 (S0.move rfl) rfl <| v0 (S0.move rfl) rfl <| v0 (S0.build rfl (qs := [(0, _), (1, _), (2, _)]) rfl) rfl <| vn (S1.box rfl rfl) rfl fun b28 => v0 (S0.assign rfl) rfl <| vE <| WP.seq <| WP.region <| v0 (S0.move rfl) rfl <| ?_
    refine vcd (S1.callF rfl (dread_spec hd (f := 1) (by omega)) (take1 (atS at0) take0)) rfl ?_
    refine vc (S1.callF rfl (alls_spec (s := D.now.get 1) (by omega)) take0) rfl ?_
    rintro _ _ ⟨v, row, rfl, hsL, rfl⟩
    refine app ?_
    generalize hL : allB (D.now.get 1) = L at hsL hal han ho
    obtain ⟨va, cap, rfl, hcap, -⟩ := hsL.strsE
    obtain ⟨hrl, hrn⟩ := recs_le rd L hal
    refine v0 (S0.move rfl) rfl <| v0 (S0.extract rfl rfl) rfl <| v0 (S0.extract rfl rfl) rfl <| v0 (S0.assign rfl) rfl <| v0 (S0.assign rfl) rfl <| vE <| WP.seq <| WP.region <| v0 (S0.move rfl) rfl <| v0 (S0.move rfl) rfl <| ?_
    refine vc (S1.callF rfl (wreader_spec) take0) rfl ?_
    rintro _ _ ⟨ba, bl, br, rfl, rfl⟩
    refine app ?_
    refine v0 (S0.assign rfl) rfl <| vE <| WP.seq <| WP.region <| v0 (S0.assign rfl) rfl <| vE <| WP.seq <| WP.seq <| WP.region <| v0 (S0.move rfl) rfl <| ?_
    refine vc (S1.callC rfl rfl rfl (wnext_spec (a := 0) (by omega) hsL hal (by omega) (Nat.zero_le _)) (take1 at0 (take1 at0 take0))) rfl ?_
    rintro _ _ ⟨x0, b0, a0, hN0, rfl, rfl⟩
    refine app ?_
    refine v0 (S0.move rfl) rfl <| v0 (S0.extract rfl rfl) rfl <| v0 (S0.extract rfl rfl) rfl <| v0 (S0.assign rfl) rfl <| v0 (S0.assign rfl) rfl <| vE <| WP.block <| ?_
    refine WP.loop (fun q : List Str × Nat × Str × Bool × Nat × Value × List Blk => recsB rd L = q.1 ++ recsB rd (L.drop q.2.1) ∧ NextR rd L q.2.1 q.2.2.1 q.2.2.2.1 q.2.2.2.2.1 ∧ IsSl 9 1 q.2.2.2.2.2.1 (strs q.1) q.2.2.2.2.2.2) (fun q : List Str × Nat × Str × Bool × Nat × Value × List Blk => [(0, ptrB db), (4, .int .i64 (rd : Int)), (7, ptrB b28), (10, .func (.func 120) ⟨[]⟩ ⟨[ptrB ba, ptrB bl, ptrB br]⟩), (11, sv (textL rd q.1)), (12, sv q.2.2.1), (13, .bool q.2.2.2.1)]) (fun q : List Str × Nat × Str × Bool × Nat × Value × List Blk => [rdrC ba bl br (.slice va L.length cap) q.2.2.2.2.1 rd, row, [lgB b28 db rd st q.2.2.2.2.2.1 0], q.2.2.2.2.2.2, dc]) (fun q : List Str × Nat × Str × Bool × Nat × Value × List Blk => L.length - q.2.2.2.2.1 + (if q.2.2.2.1 = true then 1 else 0)) (([], 0, x0, b0, a0, .slice none 0 0, [])) (⟨rfl, hN0, IsSl.nil⟩) ⟨rfl, rfl, rfl, rfl, rfl, rfl, rfl, trivial⟩ ⟨[], (pm fun a_ => by (try simp only [List.flatten_append, List.flatten_cons, List.flatten_nil, List.append_nil, List.cons_append, List.nil_append, List.append_assoc, nOf_app, nOf_cons, nOf_nil, Nat.add_zero, Nat.zero_add, List.map_append, List.map_cons, List.map_nil, cel, sv, lgB, ptrB]); first | done | omega)⟩ (fun q hinv => ?_)
    obtain ⟨A, a, x, b, a', v, vrow⟩ := q
    obtain ⟨hrec, hN, hsA⟩ := hinv
    dsimp only at hrec hN hsA ⊢
    have hAl : ∀ y ∈ A, y.length ≤ 65536 := fun y hy => hrl y (by rw [hrec]; simp [hy])
    have hAn : A.length ≤ 65536 := by have := congrArg List.length hrec; rw [List.length_append] at this; omega
    refine WP.seq <| WP.seq <| WP.region <| v0 (S0.move rfl) rfl <| vE <| ?_
    cases b with
    | true =>
      obtain ⟨hlt, hr2⟩ := hN.t rfl
      have hxm : x ∈ recsB rd L := by rw [hrec, hr2]; simp
      have hxl := hrl x hxm
      have hrec2 : recsB rd L = (A ++ [x]) ++ recsB rd (L.drop a') := by rw [hrec, hr2]; simp
      have htl := textL_le rd A hAl
      have hrb := rowB_le rd (s := x)
      have htx : textL rd A ++ rowB rd x = textL rd (A ++ [x]) := by rw [textL_app]; simp [textL]
      refine WP.condTh rfl (rfl) ?_
      refine WP.skip <| WP.seq <| WP.block <| WP.seq <| WP.region <| v0 (S0.move rfl) rfl <| v0 (S0.move rfl) rfl <| v0 (S0.nilCheck rfl) rfl <| v0 (S0.fieldAddr rfl) rfl <| v0 (S0.load rfl rfl) rfl <| v0 (S0.move rfl) rfl <| vnv (S1.buildSlice rfl (qs := [(0, _)]) rfl rfl) rfl fun b55 => ?_
      refine ve (S1.appendL rfl hsA rfl rfl (atS (atS (atS (atS at0)))) rfl rfl (by rw [strs_len]; simp; omega)) rfl ?_
      rintro v2 _ ⟨vrow2, hsA2, rfl⟩
      refine v0 (S0.nilCheck rfl) rfl <| v0 (S0.fieldAddr rfl) rfl <| vs (S1.store rfl rfl (by first | rfl | exact IsSl.cv (by assumption))) <| vE <| WP.region <| v0 (S0.move rfl) rfl <| v0 (S0.move rfl) rfl <| v0 (S0.move rfl) rfl <| ?_
      refine vcd (S1.callF rfl (wrow_spec (rd := rd) (by omega) (s := x) (by omega)) take0) rfl ?_
      refine v0 (S0.addS rfl rfl (by omega)) rfl <| ?_
      rw [htx]
      refine v0 (S0.assign rfl) rfl <| vE <| WP.region <| v0 (S0.move rfl) rfl <| ?_
      refine vc (S1.callC rfl rfl rfl (wnext_spec (a := a') (by omega) hsL hal (by omega) hN.le.2) (take1 (atS (atS at0)) (take1 (atS (atS at0)) take0))) rfl ?_
      rintro _ _ ⟨x2, b2, a2, hN2, rfl, rfl⟩
      refine app ?_
      have hle2 := hN2.le
      have hme : L.length - a2 + (if b2 = true then 1 else 0) < L.length - a' + (if true = true then 1 else 0) := by
        cases b2 with
        | true => have := (hN2.t rfl).1; simp; omega
        | false => simp; omega
      refine v0 (S0.move rfl) rfl <| v0 (S0.extract rfl rfl) rfl <| v0 (S0.extract rfl rfl) rfl <| v0 (S0.assign rfl) rfl <| v0 (S0.assign rfl) rfl <| vE <| ?_
      exact ⟨(A ++ [x], a', x2, b2, a2, v2, vrow2), (by first | exact ⟨hrec2, hN2, by simpa [strs] using hsA2⟩ | (dsimp only; exact ⟨hrec2, hN2, by simpa [strs] using hsA2⟩)), hme, ⟨⟨rfl, rfl, rfl, rfl, rfl, rfl, rfl, trivial⟩, rfl, rfl⟩, ⟨_, (take1 at0 (take1 at0 (take1 (atS (atS at0)) (take1 at0 (take1 (atS at0) take0)))))⟩⟩
    | false =>
      have hr0 := hN.f rfl
      rw [hr0, List.append_nil] at hrec
      rw [hrec] at ho
      have htl := textL_le rd A hAl
      refine WP.condFh rfl (rfl) ?_
      refine WP.exit <| WP.seq <| WP.seq <| WP.region <| v0 (S0.move rfl) rfl <| v0 (S0.move rfl) rfl <| ?_
      refine vcd (S1.callF rfl (dread_spec hd (f := 1) (by omega)) (take1 (atS (atS (atS (atS at0)))) take0)) rfl ?_
      refine v0 (S0.cmpS rfl rfl rfl) rfl <| vE <| ?_
      first | refine WP.condP rfl (fun h2 => ?_) (fun h2 => ?_) | refine WP.condN rfl (fun h2 => ?_) (fun h2 => ?_) | refine WP.cond rfl (fun h2 => ?_) (fun h2 => ?_)
      · rw [if_pos h2] at ho
        refine WP.region <| v0 (S0.move rfl) rfl <| v0 (S0.move rfl) rfl <| ?_
        refine vc (S1.callF rfl (replace_spec hd hk.ok (by omega) (f := 1) (by omega) (textL rd A)) (take1 at0 take0)) rfl ?_
        rintro _ _ ⟨dc2, hd2, rfl, rfl⟩
        refine app ?_
        refine vE <| WP.seq <| WP.region <| v0 (S0.move rfl) rfl <| ?_
        refine WO.perm (h' := [lgB b28 db rd st v 0 :: vrow, dc2]) (k := [rdrC ba bl br (.slice va L.length cap) a' rd, row]) (pm fun a_ => by (try simp only [List.flatten_append, List.flatten_cons, List.flatten_nil, List.append_nil, List.cons_append, List.nil_append, List.append_assoc, nOf_app, nOf_cons, nOf_nil, Nat.add_zero, Nat.zero_add, List.map_append, List.map_cons, List.map_nil, cel, sv]); first | done | omega) ?_
        refine vc (S1.callF rfl (wsync_spec (lb := b28) (G := ⟨rd, st, A, 0⟩) ⟨v, vrow, hsA, rfl⟩ hd2) (take1 at0 (take1 at0 take0))) rfl ?_
        rintro _ _ ⟨lc3, dc3, hl3, hd3, rfl⟩
        refine app ?_
        refine vE <| WP.seq <| WP.region <| v0 (S0.move rfl) rfl <| v0 (S0.assign rfl) rfl <| v0 (S0.assign rfl) rfl <| vE <| WP.ret <| ?_
        refine r2 rfl rfl rfl ?_
        rw [ho]; exact .inr ⟨rfl, b28, lc3, dc3, hl3, hd3, rfl, rfl⟩
      · rw [if_neg (by simpa using h2)] at ho
        refine WP.skip <| WP.seq <| WP.region <| v0 (S0.move rfl) rfl <| ?_
        refine WO.perm (h' := [lgB b28 db rd st v 0 :: vrow, dc]) (k := [rdrC ba bl br (.slice va L.length cap) a' rd, row]) (pm fun a_ => by (try simp only [List.flatten_append, List.flatten_cons, List.flatten_nil, List.append_nil, List.cons_append, List.nil_append, List.append_assoc, nOf_app, nOf_cons, nOf_nil, Nat.add_zero, Nat.zero_add, List.map_append, List.map_cons, List.map_nil, cel, sv]); first | done | omega) ?_
        refine vc (S1.callF rfl (wsync_spec (lb := b28) (G := ⟨rd, st, A, 0⟩) ⟨v, vrow, hsA, rfl⟩ hd) (take1 at0 (take1 at0 take0))) rfl ?_
        rintro _ _ ⟨lc3, dc3, hl3, hd3, rfl⟩
        refine app ?_
        refine vE <| WP.seq <| WP.region <| v0 (S0.move rfl) rfl <| v0 (S0.assign rfl) rfl <| v0 (S0.assign rfl) rfl <| vE <| WP.ret <| ?_
        refine r2 rfl rfl rfl ?_
        rw [ho]; exact .inr ⟨rfl, b28, lc3, dc3, hl3, hd3, rfl, rfl⟩
end Go.Proofs.YtjpjebfodhbdfaaGreatDoor
namespace Go.Proofs.YtjpjebfodhbdfaaGreatDoor
open Go
abbrev rlB (lb rb : Nat) (rd : Nat) (st : Str) (v : Value) (sure : Int) : Blk := (lb, .cells ⟨[ptrB rb, .int .i64 (rd : Int), sv st, v, .int .i64 sure]⟩ 86 (0, 0))
theorem xrow_spec {rd : Nat} (hr : rd < 4611686018427387904) {s : Str} (hs : s.length ≤ 800000) : FN Tryz.prog 72 [.int .i64 (rd : Int), sv s] [] (is (sv (rowB rd s)) []) := by
  have h1 := putV_le rd
  refine FN.intro 11 [(0, .int .i64 (rd : Int)), (1, sv s)] Tryz.func72 rfl (enters Tryz.func72 (by kernel_rfl) rfl) Tryz.ntmps72 rfl rfl ?_
  refine WP.seq <| WP.region <| v0 (S0.assign rfl) rfl <| vE <| WP.seq <| WP.region <| v0 (S0.move rfl) rfl <| v0 (S0.convI rfl (wrap_u64 (by omega))) rfl <| ?_
  refine vcd (S1.callF rfl (rput_spec (n := rd) (by omega)) take0) rfl ?_
  refine v0 (S0.move rfl) rfl <| ?_
  refine v0 (S0.addS rfl rfl (by omega)) rfl <| ?_
  refine vcd (S1.callF rfl (rseal_spec (s := putV rd ++ s) (by rw [List.length_append]; omega)) take0) rfl ?_
  refine v0 (S0.assign rfl) rfl <| vE <| WP.ret <| ?_
  refine r1 rfl rfl ⟨?_, rfl⟩
  rfl
end Go.Proofs.YtjpjebfodhbdfaaGreatDoor
namespace Go.Proofs.YtjpjebfodhbdfaaGreatDoor
open Go
end Go.Proofs.YtjpjebfodhbdfaaGreatDoor
namespace Go.Proofs.YtjpjebfodhbdfaaGreatDoor
open Go
end Go.Proofs.YtjpjebfodhbdfaaGreatDoor
namespace Go.Proofs.YtjpjebfodhbdfaaGreatDoor
open Go
end Go.Proofs.YtjpjebfodhbdfaaGreatDoor
namespace Go.Proofs.YtjpjebfodhbdfaaGreatDoor
open Go
theorem requal_spec {v1 v2 : Value} {q1 q2 : List Blk} {a b : List MkT} (h1 : IsSl 63 2 v1 (a.flatMap enM) q1) (h2 : IsSl 63 2 v2 (b.flatMap enM) q2) (ha : a.length ≤ 1000000) : FN Tryz.prog 45 [v1, v2] [q1, q2] (is (.bool (decide (a = b))) [q1, q2]) := by
  obtain ⟨a1, c1, rfl, hc1, hr1⟩ := IsSl.elems (k := 1) enM_len h1
  obtain ⟨a2, c2, rfl, hc2, hr2⟩ := IsSl.elems (k := 1) enM_len h2
  refine FN.intro 26 [(0, .slice a1 a.length c1), (1, .slice a2 b.length c2)] Tryz.func45 rfl (enters Tryz.func45 (by kernel_rfl) rfl) Tryz.ntmps45 rfl rfl ?_
  refine WP.seq <| WP.region <| v0 (S0.assign rfl) rfl <| vE <| WP.seq <| WP.seq <| WP.region <| v0 (S0.move rfl) rfl <| v0 (S0.lenSl rfl) rfl <| v0 (S0.move rfl) rfl <| v0 (S0.lenSl rfl) rfl <| v0 (S0.cmp rfl rfl rfl) rfl <| vE <| ?_
  first | refine WP.condP rfl (fun hl => ?_) (fun hl => ?_) | refine WP.condN rfl (fun hl => ?_) (fun hl => ?_) | refine WP.cond rfl (fun hl => ?_) (fun hl => ?_)
  · refine WP.seq <| WP.region <| v0 (S0.assign rfl) rfl <| vE <| WP.ret <| ?_
    refine r1 rfl rfl ⟨?_, rfl⟩
    have : a ≠ b := fun e => hl (by rw [e])
    simp [this]
  · refine WP.skip <| WP.seq <| WP.seq <| WP.region <| v0 (S0.assign rfl) rfl <| vE <| WP.block <| ?_
    refine WP.loop (fun i : Nat => i ≤ a.length ∧ a.take i = b.take i) (fun i : Nat => [(0, .slice a1 a.length c1), (1, .slice a2 b.length c2), (5, .int .i64 (i : Int))]) (fun i : Nat => [q1, q2]) (fun i : Nat => a.length - i) (0) (⟨by omega, rfl⟩) ⟨rfl, rfl, rfl, trivial⟩ ⟨_, (take1 at0 (take1 at0 take0))⟩ (fun i hinv => ?_)
    obtain ⟨hi, htk⟩ := hinv
    refine WP.seq <| WP.seq <| WP.region <| v0 (S0.move rfl) rfl <| v0 (S0.move rfl) rfl <| v0 (S0.lenSl rfl) rfl <| v0 (S0.cmp rfl rfl rfl) rfl <| vE <| ?_
    first | refine WP.condP rfl (fun h3 => ?_) (fun h3 => ?_) | refine WP.condN rfl (fun h3 => ?_) (fun h3 => ?_) | refine WP.cond rfl (fun h3 => ?_) (fun h3 => ?_)
    · have hlt : i < a.length := by omega
      have hlt2 : i < b.length := by omega
      rcases hr1 with ⟨rfl, -⟩ | ⟨b1, sp1, rfl, rfl, hsp1⟩
      · simp at hlt
      rcases hr2 with ⟨rfl, -⟩ | ⟨b2, sp2, rfl, rfl, hsp2⟩
      · simp at hlt2
      have hx : a[i]? = some a[i] := by simp [hlt]
      have hy : b[i]? = some b[i] := by simp [hlt2]
      generalize a[i] = x at hx
      generalize b[i] = y at hy
      obtain ⟨x1, x2⟩ := x
      obtain ⟨y1, y2⟩ := y
      refine WP.skip <| WP.seq <| WP.block <| WP.seq <| WP.drawP [(0, none), (1, none), (2, none), (3, none), (4, none), (5, none), (6, none), (7, none), (8, none)] mixed (by kernel_rfl) (by kernel_rfl) (by kernel_rfl) (take1 at0 (take1 at0 take0)) <| w0 rfl rfl rfl (S0.move rfl) rfl <| w0 rfl rfl rfl (S0.move rfl) rfl <| ?_
      refine w0 rfl rfl rfl (S0.indexN (k := 2) rfl rfl hlt) rfl <| ?_
      refine w0 rfl rfl rfl (S0.loadA (vs := [.int .i64 x1, .int .i64 x2]) rfl (flat_take enM_len sp1 a i _ hx) rfl) rfl <| ?_
      refine w0 rfl rfl rfl (S0.move rfl) rfl <| w0 rfl rfl rfl (S0.move rfl) rfl <| ?_
      refine w0 rfl rfl rfl (S0.indexN (k := 2) rfl rfl hlt2) rfl <| ?_
      refine w0 rfl rfl rfl (S0.loadA (vs := [.int .i64 y1, .int .i64 y2]) rfl (flat_take enM_len sp2 b i _ hy) rfl) rfl <| ?_
      refine w0 rfl rfl rfl (S0.eqAg rfl rfl rfl rfl) rfl <| wE <| ?_
      by_cases e : x1 = y1 ∧ x2 = y2
      · obtain ⟨rfl, rfl⟩ := e
        refine WP.condFh rfl ((by simp)) ?_
        refine WP.skip <| WP.region <| v0 (S0.move rfl) rfl <| v0 (S0.ari rfl rfl rfl (wrap_i64 (by omega))) rfl <| v0 (S0.assign rfl) rfl <| vE <| ?_
        exact ⟨i + 1, (by first | exact ⟨hlt, by rw [List.take_add_one, List.take_add_one, hx, hy, htk]⟩ | (dsimp only; exact ⟨hlt, by rw [List.take_add_one, List.take_add_one, hx, hy, htk]⟩)), (by omega), ⟨⟨rfl, rfl, rfl, trivial⟩, rfl, rfl⟩, ⟨_, (take1 at0 (take1 at0 take0))⟩⟩
      · refine WP.condTh rfl ((by by_cases u : x1 = y1 <;> by_cases u2 : x2 = y2 <;> simp [u, u2]; exact e ⟨u, u2⟩)) ?_
        refine WP.seq <| WP.region <| v0 (S0.assign rfl) rfl <| vE <| WP.ret <| ?_
        refine r1 rfl rfl ⟨?_, rfl⟩
        have : a ≠ b := fun e2 => e (by subst e2; rw [hx] at hy; cases hy; exact ⟨rfl, rfl⟩)
        simp [this]
    · refine WP.exit <| WP.seq <| WP.region <| v0 (S0.assign rfl) rfl <| vE <| WP.ret <| ?_
      refine r1 rfl rfl ⟨?_, rfl⟩
      have : a = b := by
        rw [List.take_of_length_le (by omega), List.take_of_length_le (by omega)] at htk
        exact htk
      simp [this]
end Go.Proofs.YtjpjebfodhbdfaaGreatDoor
namespace Go.Proofs.YtjpjebfodhbdfaaGreatDoor
open Go
theorem within_spec (n a b : Int) : FN Tryz.prog 129 [.int .i64 n, .int .i64 a, .int .i64 b] [] (is (.bool (inB n a b)) []) := by
  refine FN.intro 15 [(0, .int .i64 n), (1, .int .i64 a), (2, .int .i64 b)] Tryz.func129 rfl (enters Tryz.func129 (by kernel_rfl) rfl) Tryz.ntmps129 rfl rfl ?_
  refine WP.seq <| WP.region <| v0 (S0.assign rfl) rfl <| vE <| WP.seq <| WP.region <| v0 (S0.move rfl) rfl <| v0 (S0.move rfl) rfl <| v0 (S0.cmp rfl rfl rfl) rfl <| v0 (S0.move rfl) rfl <| ?_
  first | refine csP (t := 10) rfl (fun hq0 => ?_) (fun hq0 => ?_) | refine csN (t := 10) rfl (fun hq0 => ?_) (fun hq0 => ?_) | refine cs (t := 10) rfl (fun hq0 => ?_) (fun hq0 => ?_)
  ·
    refine gT rfl <| v0 (S0.move rfl) rfl <| gT rfl <| v0 (S0.move rfl) rfl <| gT rfl <| v0 (S0.cmp rfl rfl rfl) rfl <| v0 (S0.pickT rfl rfl) rfl <| v0 (S0.assign rfl) rfl <| vE <| WP.ret <| ?_
    refine r1 rfl rfl ⟨?_, rfl⟩
    exact congrArg Value.bool (by simp [inB, *])
  ·
    refine gF rfl rfl <| gF rfl rfl <| gF rfl rfl <| v0 (S0.pickF rfl rfl) rfl <| v0 (S0.assign rfl) rfl <| vE <| WP.ret <| ?_
    refine r1 rfl rfl ⟨?_, rfl⟩
    exact congrArg Value.bool (by simp [inB, *])
theorem evRight_spec {x : Ev} (ht : x.t.length ≤ 900000) : FN Tryz.prog 95 [.agg ⟨evB x⟩] [] (is (.bool (rightE x)) []) := by
  refine FN.intro 27 [(0, .agg ⟨evB x⟩)] Tryz.func95 rfl (enters Tryz.func95 (by kernel_rfl) rfl) Tryz.ntmps95 rfl rfl ?_
  refine WP.seq <| WP.region <| vn (S1.box rfl rfl) rfl fun b1 => v0 (S0.assign rfl) rfl <| vE <| WP.seq <| WP.region <| v0 (S0.fieldAddr rfl) rfl <| v0 (S0.load rfl rfl) rfl <| vcd (S1.callF rfl (within_spec _ _ _) take0) rfl <| v0 (S0.move rfl) rfl <| ?_
  first | refine csP (t := 6) rfl (fun hq0 => ?_) (fun hq0 => ?_) | refine csN (t := 6) rfl (fun hq0 => ?_) (fun hq0 => ?_) | refine cs (t := 6) rfl (fun hq0 => ?_) (fun hq0 => ?_)
  ·
    refine gT rfl <| v0 (S0.fieldAddr rfl) rfl <| gT rfl <| v0 (S0.load rfl rfl) rfl <| gT rfl <| vcd (S1.callF rfl (within_spec _ _ _) take0) rfl <| v0 (S0.pickT rfl rfl) rfl <| v0 (S0.move rfl) rfl <| ?_
    first | refine csP (t := 11) rfl (fun hq1 => ?_) (fun hq1 => ?_) | refine csN (t := 11) rfl (fun hq1 => ?_) (fun hq1 => ?_) | refine cs (t := 11) rfl (fun hq1 => ?_) (fun hq1 => ?_)
    ·
      refine gT rfl <| v0 (S0.fieldAddr rfl) rfl <| gT rfl <| v0 (S0.load rfl rfl) rfl <| gT rfl <| vcd (S1.callF rfl (within_spec _ _ _) take0) rfl <| v0 (S0.pickT rfl rfl) rfl <| v0 (S0.move rfl) rfl <| ?_
      first | refine csP (t := 16) rfl (fun hq2 => ?_) (fun hq2 => ?_) | refine csN (t := 16) rfl (fun hq2 => ?_) (fun hq2 => ?_) | refine cs (t := 16) rfl (fun hq2 => ?_) (fun hq2 => ?_)
      ·
        refine gT rfl <| v0 (S0.fieldAddr rfl) rfl <| gT rfl <| v0 (S0.load rfl rfl) rfl <| gT rfl <| vcd (S1.callF rfl (right_spec (by omega)) take0) rfl <| v0 (S0.pickT rfl rfl) rfl <| v0 (S0.move rfl) rfl <| ?_
        first | refine csP (t := 21) rfl (fun hq3 => ?_) (fun hq3 => ?_) | refine csN (t := 21) rfl (fun hq3 => ?_) (fun hq3 => ?_) | refine cs (t := 21) rfl (fun hq3 => ?_) (fun hq3 => ?_)
        ·
          refine gT rfl <| v0 (S0.fieldAddr rfl) rfl <| gT rfl <| v0 (S0.load rfl rfl) rfl <| gT rfl <| v0 (S0.lenSt rfl) rfl <| gT rfl <| v0 (S0.cmp rfl rfl rfl) rfl <| v0 (S0.pickT rfl rfl) rfl <| v0 (S0.assign rfl) rfl <| vE <| WP.ret <| ?_
          refine Leaves.drop take0 ?_
          refine r1 rfl rfl ⟨?_, rfl⟩
          exact congrArg Value.bool (by simp [rightE, *]; try omega)
        ·
          refine gF rfl rfl <| gF rfl rfl <| gF rfl rfl <| gF rfl rfl <| v0 (S0.pickF rfl rfl) rfl <| v0 (S0.assign rfl) rfl <| vE <| WP.ret <| ?_
          refine Leaves.drop take0 ?_
          refine r1 rfl rfl ⟨?_, rfl⟩
          exact congrArg Value.bool (by simp [rightE, *]; try omega)
      ·
        refine gF rfl rfl <| gF rfl rfl <| gF rfl rfl <| v0 (S0.pickF rfl rfl) rfl <| v0 (S0.move rfl) rfl <| gF rfl rfl <| gF rfl rfl <| gF rfl rfl <| gF rfl rfl <| v0 (S0.pickF rfl rfl) rfl <| v0 (S0.assign rfl) rfl <| vE <| WP.ret <| ?_
        refine Leaves.drop take0 ?_
        refine r1 rfl rfl ⟨?_, rfl⟩
        exact congrArg Value.bool (by simp [rightE, *]; try omega)
    ·
      refine gF rfl rfl <| gF rfl rfl <| gF rfl rfl <| v0 (S0.pickF rfl rfl) rfl <| v0 (S0.move rfl) rfl <| gF rfl rfl <| gF rfl rfl <| gF rfl rfl <| v0 (S0.pickF rfl rfl) rfl <| v0 (S0.move rfl) rfl <| gF rfl rfl <| gF rfl rfl <| gF rfl rfl <| gF rfl rfl <| v0 (S0.pickF rfl rfl) rfl <| v0 (S0.assign rfl) rfl <| vE <| WP.ret <| ?_
      refine Leaves.drop take0 ?_
      refine r1 rfl rfl ⟨?_, rfl⟩
      exact congrArg Value.bool (by simp [rightE, *]; try omega)
  ·
    refine gF rfl rfl <| gF rfl rfl <| gF rfl rfl <| v0 (S0.pickF rfl rfl) rfl <| v0 (S0.move rfl) rfl <| gF rfl rfl <| gF rfl rfl <| gF rfl rfl <| v0 (S0.pickF rfl rfl) rfl <| v0 (S0.move rfl) rfl <| gF rfl rfl <| gF rfl rfl <| gF rfl rfl <| v0 (S0.pickF rfl rfl) rfl <| v0 (S0.move rfl) rfl <| gF rfl rfl <| gF rfl rfl <| gF rfl rfl <| gF rfl rfl <| v0 (S0.pickF rfl rfl) rfl <| v0 (S0.assign rfl) rfl <| vE <| WP.ret <| ?_
    refine Leaves.drop take0 ?_
    refine r1 rfl rfl ⟨?_, rfl⟩
    exact congrArg Value.bool (by simp [rightE, *]; try omega)
end Go.Proofs.YtjpjebfodhbdfaaGreatDoor
namespace Go.Proofs.YtjpjebfodhbdfaaGreatDoor
open Go
theorem rdT_le {s : Str} {a : Nat} {bad : Int} (ha : a ≤ s.length) : (rdT s a bad).2.1 ≤ s.length ∧ (rdT s a bad).1.length ≤ s.length := by
  unfold rdT
  split
  · exact ⟨ha, by simp⟩
  · split
    · exact ⟨ha, by simp⟩
    · rename_i h
      have := cutV_le (Decidable.not_not.1 h)
      exact ⟨this.1, this.2.1⟩
abbrev ptrs3 (b : Nat) : List Value := [.pointer (some ⟨b, 0, none⟩), .pointer (some ⟨b, 1, none⟩), .pointer (some ⟨b, 4, none⟩)]
theorem ev3 (e : Ev) (b : Nat) : ∀ k, k < 3 → ∃ off n, (ptrs3 b)[((k : Nat) : Int).toNat]? = some (.pointer (some ⟨b, off, none⟩)) ∧ (evB e)[off]? = some (.int .i64 n) ∧ [e.o, e.s, e.e][k]? = some n
  | 0, _ => ⟨0, e.o, rfl, rfl, rfl⟩
  | 1, _ => ⟨1, e.s, rfl, rfl, rfl⟩
  | 2, _ => ⟨4, e.e, rfl, rfl, rfl⟩
theorem eput_spec {e : Ev} (ht : e.t.length ≤ 900000) (hl : e.l.length ≤ 900000) : FN Tryz.prog 51 [.agg ⟨evB e⟩] [] (is (sv (putE e)) []) := by
  refine FN.quiet ?_
  refine FN.intro 33 [(0, .agg ⟨evB e⟩)] Tryz.func51 rfl (enters Tryz.func51 (by kernel_rfl) rfl) Tryz.ntmps51 rfl rfl ?_
  refine WP.seq <| WP.region <| vn (S1.box rfl rfl) rfl fun b1 => v0 (S0.assign rfl) rfl <| vE <| WP.seq <| WP.seq <| WP.region <| v0 (S0.loadAL rfl) rfl <| ?_
  refine vcd (S1.callF rfl (evRight_spec ht) take0) rfl ?_
  refine v0 (S0.not rfl) rfl <| vE <| ?_
  cases hr : rightE e with
  | false =>
    refine WP.condTh rfl (rfl) ?_
    refine WP.seq <| WP.region <| v0 (S0.assign rfl) rfl <| vE <| WP.ret <| ?_
    refine r1 rfl rfl ?_
    unfold putE; rw [if_neg (by rw [hr]; decide)]
  | true =>
    have hb := rightE_bd hr
    refine WP.condFh rfl (rfl) ?_
    refine WP.skip <| WP.seq <| WP.region <| v0 (S0.assign rfl) rfl <| vE <| WP.seq <| WP.seq <| WP.region <| v0 (S0.fieldAddr rfl) rfl <| v0 (S0.fieldAddr rfl) rfl <| v0 (S0.fieldAddr rfl) rfl <| v0 (S0.buildArr rfl (qs := [(0, _), (1, _), (2, _)]) rfl) rfl <| v0 (S0.move rfl) rfl <| vE <| WP.block <| ?_
    refine WP.loop (fun k : Nat => k ≤ 3) (fun k : Nat => [(1, .pointer (some ⟨b1, 0, none⟩)), (3, sv (([e.o, e.s, e.e].take k).flatMap fun n => putV n.toNat)), (12, .agg ⟨ptrs3 b1⟩), (13, .int .i64 (k : Int))]) (fun k : Nat => [[(b1, .cells ⟨evB e⟩ 41 (0, 0))]]) (fun k : Nat => 3 - k) (0) (Nat.zero_le _) ⟨rfl, rfl, rfl, rfl, trivial⟩ ⟨_, (take1 at0 take0)⟩ (fun k hinv => ?_)
    refine WP.seq <| WP.region <| v0 (S0.cmp rfl rfl rfl) rfl <| vE <| WP.seq <| ?_
    first | refine WP.condP rfl (fun h1 => ?_) (fun h1 => ?_) | refine WP.condN rfl (fun h1 => ?_) (fun h1 => ?_) | refine WP.cond rfl (fun h1 => ?_) (fun h1 => ?_)
    · have hlt : k < 3 := by omega
      obtain ⟨off, n, g1, g2, g3⟩ := ev3 e b1 k hlt
      have hn : 0 ≤ n ∧ n ≤ 1099511627776 := by
        match k, hlt, g3 with
        | 0, _, g3 => cases g3; omega
        | 1, _, g3 => cases g3; omega
        | 2, _, g3 => cases g3; omega
      have hst : ([e.o, e.s, e.e].take (k + 1)).flatMap (fun n => putV n.toNat) = ([e.o, e.s, e.e].take k).flatMap (fun n => putV n.toNat) ++ putV n.toNat := by
        rw [List.take_add_one, g3]; simp
      have hpl : (([e.o, e.s, e.e].take k).flatMap fun n => putV n.toNat).length ≤ 100 := by
        have h1 := putV_le e.o.toNat
        have h2 := putV_le e.s.toNat
        have h3 := putV_le e.e.toNat
        match k, hlt with
        | 0, _ => simp
        | 1, _ => simp; omega
        | 2, _ => simp; omega
      have hpn := putV_le n.toNat
      rw [show n = ((n.toNat : Nat) : Int) by omega] at g2
      refine WP.skip <| WP.seq <| WP.block <| WP.seq <| WP.region <| ?_
      refine v0 (S0.indexVal rfl rfl ⟨by omega, by omega⟩ g1) rfl <| ?_
      refine v0 (S0.assign rfl) rfl <| vE <| WP.region <| v0 (S0.move rfl) rfl <| v0 (S0.move rfl) rfl <| v0 (S0.nilCheck rfl) rfl <| ?_
      refine v0 (S0.load rfl g2) rfl <| ?_
      refine v0 (S0.convI rfl (wrap_u64 (by omega))) rfl <| ?_
      refine vcd (S1.callF rfl (put_spec (n := n.toNat) (by omega)) take0) rfl ?_
      refine v0 (S0.addS rfl rfl (by omega)) rfl <| ?_
      rw [← hst]
      refine v0 (S0.assign rfl) rfl <| vE <| WP.region <| v0 (S0.ari rfl rfl rfl (wrap_i64 (by omega))) rfl <| v0 (S0.move rfl) rfl <| vE <| ?_
      exact ⟨k + 1, (by first | exact hlt | (dsimp only; exact hlt)), (show 3 - (k + 1) < 3 - k by omega), ⟨⟨rfl, rfl, rfl, rfl, trivial⟩, rfl, rfl⟩, ⟨_, (take1 at0 take0)⟩⟩
    · have e3 : k = 3 := by omega
      subst e3
      have hpt : putE e = ([e.o, e.s, e.e].take 3).flatMap (fun n => putV n.toNat) ++ textB e.t ++ textB e.l := by unfold putE; rw [if_pos hr]; simp
      have hpl : (([e.o, e.s, e.e].take 3).flatMap fun n => putV n.toNat).length ≤ 100 := by
        have h1 := putV_le e.o.toNat
        have h2 := putV_le e.s.toNat
        have h3 := putV_le e.e.toNat
        simp; omega
      have h4 := putV_le e.t.length
      have h5 := putV_le e.l.length
      have q1 : (textB e.t).length ≤ 900009 := by unfold textB; rw [List.length_append]; omega
      have q2 : (textB e.l).length ≤ 900009 := by unfold textB; rw [List.length_append]; omega
      refine WP.exit <| ?_
      refine WP.seq <| WP.drawP [(0, none), (1, none), (2, none), (5, none), (6, none), (3, none), (4, none), (7, none), (8, none), (9, none)] mixed (by kernel_rfl) (by kernel_rfl) (by kernel_rfl) (take1 at0 take0) <| w0 rfl rfl rfl (S0.move rfl) rfl <| w0 rfl rfl rfl (S0.fieldAddr rfl) rfl <| w0 rfl rfl rfl (S0.load rfl rfl) rfl <| w0 rfl rfl rfl (S0.fieldAddr rfl) rfl <| w0 rfl rfl rfl (S0.load rfl rfl) rfl <| ?_
      refine wcd rfl rfl rfl rfl (S1.callF rfl (text_spec (s := e.t) (by omega)) take0) rfl ?_
      refine w0 rfl rfl rfl (S0.addS rfl rfl (by simp only [textB] at q1; omega)) rfl <| ?_
      refine wcd rfl rfl rfl rfl (S1.callF rfl (text_spec (s := e.l) (by omega)) take0) rfl ?_
      refine w0 rfl rfl rfl (S0.addS rfl rfl (by simp only [textB] at q1 q2; simp only [List.length_append] at *; omega)) rfl <| ?_
      refine w0 rfl rfl rfl (S0.assign rfl) rfl <| wE <| WP.ret <| ?_
      refine r1 rfl rfl ?_
      rw [hpt]; rfl
def numAt (s : Str) (a : Nat) : Nat → Nat × Int
  | 0 => (a, 0)
  | k + 1 => (rdN s (numAt s a k).1 (numAt s a k).2).2
def numIs (s : Str) (a k : Nat) : Int := (rdN s (numAt s a k).1 (numAt s a k).2).1
theorem numAt_le {s : Str} {a : Nat} (ha : a ≤ s.length) : ∀ k, (numAt s a k).1 ≤ s.length
  | 0 => ha
  | k + 1 => rdN_le (numAt_le ha k)
def partE (s : Str) (a : Nat) : Nat → Ev
  | 0 => ev0
  | 1 => { ev0 with o := numIs s a 0 }
  | 2 => { ev0 with o := numIs s a 0, s := numIs s a 1 }
  | _ => { ev0 with o := numIs s a 0, s := numIs s a 1, e := numIs s a 2 }
theorem part_set (s : Str) (a b : Nat) : ∀ k, k < 3 → ∃ off, (ptrs3 b)[((k : Nat) : Int).toNat]? = some (.pointer (some ⟨b, off, none⟩)) ∧ off < 5 ∧ (evB (partE s a k)).set off (.int .i64 (numIs s a k)) = evB (partE s a (k + 1))
  | 0, _ => ⟨0, rfl, by decide, rfl⟩
  | 1, _ => ⟨1, rfl, by decide, rfl⟩
  | 2, _ => ⟨4, rfl, by decide, rfl⟩
theorem eget_spec {s : Str} {a : Nat} (hs : s.length ≤ 900000) (ha : a ≤ s.length) : FN Tryz.prog 85 [sv s, .int .i64 (a : Int)] [] (is (.tuple ⟨[.agg ⟨evB (getE s a).1⟩, .int .i64 (getE s a).2.1, .int .i64 (getE s a).2.2]⟩) []) := by
  refine FN.quiet ?_
  refine FN.intro 57 [(0, sv s), (1, .int .i64 (a : Int))] Tryz.func85 rfl (enters Tryz.func85 (by kernel_rfl) rfl) Tryz.ntmps85 rfl rfl ?_
  refine WP.seq <| WP.region <| vn (S1.alloc) rfl fun b4 => v0 (S0.assign rfl) rfl <| v0 (S0.assign rfl) rfl <| vE <| WP.seq <| WP.region <| vn (S1.alloc) rfl fun b7 => vE <| WP.seq <| WP.region <| v0 (S0.move rfl) rfl <| v0 (S0.move rfl) rfl <| ?_
  refine vc (S1.callF rfl (reader_spec s a) take0) rfl ?_
  rintro _ _ ⟨bs, bt, be, rfl, rfl⟩
  refine app ?_
  refine v0 (S0.move rfl) rfl <| v0 (S0.extract rfl rfl) rfl <| v0 (S0.extract rfl rfl) rfl <| v0 (S0.extract rfl rfl) rfl <| v0 (S0.assign rfl) rfl <| v0 (S0.assign rfl) rfl <| v0 (S0.assign rfl) rfl <| vE <| WP.seq <| WP.seq <| WP.region <| v0 (S0.fieldAddr rfl) rfl <| v0 (S0.fieldAddr rfl) rfl <| v0 (S0.fieldAddr rfl) rfl <| v0 (S0.buildArr rfl (qs := [(0, _), (1, _), (2, _)]) rfl) rfl <| v0 (S0.move rfl) rfl <| vE <| WP.block <| ?_
  refine WP.loop (fun k : Nat => k ≤ 3) (fun k : Nat => [(4, .pointer (some ⟨b4, 0, none⟩)), (7, .pointer (some ⟨b7, 0, none⟩)), (8, .func (.func 146) ⟨[]⟩ ⟨[ptrB bs, ptrB bt, ptrB be]⟩), (9, .func (.func 147) ⟨[]⟩ ⟨[ptrB bs, ptrB bt, ptrB be]⟩), (10, .func (.func 148) ⟨[]⟩ ⟨[ptrB bt, ptrB be]⟩), (25, .agg ⟨ptrs3 b7⟩), (26, .int .i64 (k : Int))]) (fun k : Nat => [rdC bs bt be s (numAt s a k).1 (numAt s a k).2, [(b7, .cells ⟨evB (partE s a k)⟩ 41 (0, 0))], [(b4, .cells ⟨evB ev0⟩ 41 (0, 0))]]) (fun k : Nat => 3 - k) (0) (Nat.zero_le _) ⟨rfl, rfl, rfl, rfl, rfl, rfl, rfl, trivial⟩ ⟨_, (take1 at0 (take1 at0 (take1 at0 take0)))⟩ (fun k hinv => ?_)
  have hle := numAt_le ha k
  refine WP.seq <| WP.region <| v0 (S0.cmp rfl rfl rfl) rfl <| vE <| WP.seq <| ?_
  first | refine WP.condP rfl (fun h1 => ?_) (fun h1 => ?_) | refine WP.condN rfl (fun h1 => ?_) (fun h1 => ?_) | refine WP.cond rfl (fun h1 => ?_) (fun h1 => ?_)
  · have hlt : k < 3 := by omega
    obtain ⟨off, g1, hoff, hset⟩ := part_set s a b7 k hlt
    refine WP.skip <| WP.seq <| WP.block <| WP.seq <| WP.region <| ?_
    refine v0 (S0.indexVal rfl rfl ⟨by omega, by omega⟩ g1) rfl <| ?_
    refine v0 (S0.assign rfl) rfl <| vE <| WP.region <| v0 (S0.move rfl) rfl <| v0 (S0.move rfl) rfl <| ?_
    refine vc (S1.callC rfl rfl rfl (num_spec (s := s) (a := (numAt s a k).1) (bad := (numAt s a k).2) (by omega) (by omega)) (take1 at0 take0)) rfl ?_
    rintro _ _ ⟨rfl, rfl⟩
    refine app ?_
    refine v0 (S0.nilCheck rfl) rfl <| ?_
    refine vs (S1.storeI rfl rfl rfl (l' := evB (partE s a (k + 1))) hset (by rw [evB_len]; omega)) <| ?_
    refine vE <| WP.region <| v0 (S0.ari rfl rfl rfl (wrap_i64 (by omega))) rfl <| v0 (S0.move rfl) rfl <| vE <| ?_
    exact ⟨k + 1, (by first | exact hlt | (dsimp only; exact hlt)), (show 3 - (k + 1) < 3 - k by omega), ⟨⟨rfl, rfl, rfl, rfl, rfl, rfl, rfl, trivial⟩, rfl, rfl⟩, ⟨_, (take1 at0 (take1 at0 (take1 at0 take0)))⟩⟩
  · have e3 : k = 3 := by omega
    subst e3
    have hT := rdT_le (bad := (numAt s a 3).2) hle
    have hT2 := rdT_le (bad := (rdT s (numAt s a 3).1 (numAt s a 3).2).2.2) hT.1
    refine WP.exit <| WP.seq <| WP.region <| v0 (S0.move rfl) rfl <| ?_
    refine vc (S1.callC rfl rfl rfl (text2_spec (s := s) (a := (numAt s a 3).1) (bad := (numAt s a 3).2) (by omega) (by omega)) (take1 at0 take0)) rfl ?_
    rintro _ _ ⟨rfl, rfl⟩
    refine app ?_
    refine v0 (S0.move rfl) rfl <| ?_
    refine vc (S1.callC rfl rfl rfl (text2_spec (s := s) (a := (rdT s (numAt s a 3).1 (numAt s a 3).2).2.1) (bad := (rdT s (numAt s a 3).1 (numAt s a 3).2).2.2) (by omega) (by omega)) (take1 at0 take0)) rfl ?_
    rintro _ _ ⟨rfl, rfl⟩
    refine app ?_
    have hg : getE s a = if (rdT s (rdT s (numAt s a 3).1 (numAt s a 3).2).2.1 (rdT s (numAt s a 3).1 (numAt s a 3).2).2.2).2.2 ≠ 0 then (ev0, 0, (rdT s (rdT s (numAt s a 3).1 (numAt s a 3).2).2.1 (rdT s (numAt s a 3).1 (numAt s a 3).2).2.2).2.2) else if rightE ⟨numIs s a 0, numIs s a 1, (rdT s (numAt s a 3).1 (numAt s a 3).2).1, (rdT s (rdT s (numAt s a 3).1 (numAt s a 3).2).2.1 (rdT s (numAt s a 3).1 (numAt s a 3).2).2.2).1, numIs s a 2⟩ = false then (ev0, 0, 4) else (⟨numIs s a 0, numIs s a 1, (rdT s (numAt s a 3).1 (numAt s a 3).2).1, (rdT s (rdT s (numAt s a 3).1 (numAt s a 3).2).2.1 (rdT s (numAt s a 3).1 (numAt s a 3).2).2.2).1, numIs s a 2⟩, ((rdT s (rdT s (numAt s a 3).1 (numAt s a 3).2).2.1 (rdT s (numAt s a 3).1 (numAt s a 3).2).2.2).2.1 : Int), 0) := rfl
    generalize (rdT s (rdT s (numAt s a 3).1 (numAt s a 3).2).2.1 (rdT s (numAt s a 3).1 (numAt s a 3).2).2.2) = y at hg hT2
    generalize (rdT s (numAt s a 3).1 (numAt s a 3).2) = x at hg hT
    obtain ⟨y1, y2, y3⟩ := y
    obtain ⟨x1, x2, x3⟩ := x
    dsimp only at hg hT hT2 ⊢
    refine v0 (S0.fieldAddr rfl) rfl <| vs (S1.store rfl rfl (by first | rfl | exact IsSl.cv (by assumption))) <| v0 (S0.fieldAddr rfl) rfl <| vs (S1.store rfl rfl (by first | rfl | exact IsSl.cv (by assumption))) <| vE <| WP.seq <| WP.region <| v0 (S0.move rfl) rfl <| ?_
    refine vc (S1.callC rfl rfl rfl (end_spec (s := s) (a := y2) (bad := y3)) (take1 at0 take0)) rfl ?_
    rintro _ _ ⟨rfl, rfl⟩
    refine app ?_
    refine v0 (S0.move rfl) rfl <| v0 (S0.extract rfl rfl) rfl <| v0 (S0.extract rfl rfl) rfl <| v0 (S0.assign rfl) rfl <| v0 (S0.assign rfl) rfl <| vE <| WP.seq <| WP.block <| WP.seq <| WP.region <| v0 (S0.move rfl) rfl <| v0 (S0.cmp rfl rfl rfl) rfl <| v0 (S0.assign rfl) rfl <| vE <| ?_
    first | refine WP.condP rfl (fun h2 => ?_) (fun h2 => ?_) | refine WP.condN rfl (fun h2 => ?_) (fun h2 => ?_) | refine WP.cond rfl (fun h2 => ?_) (fun h2 => ?_)
    · rw [if_pos h2] at hg
      refine WP.seq <| WP.region <| v0 (S0.build rfl (qs := []) rfl) rfl <| v0 (S0.move rfl) rfl <| vs (S1.storeA rfl rfl rfl) <| v0 (S0.assign rfl) rfl <| v0 (S0.assign rfl) rfl <| vE <| WP.ret <| ?_
      exact rce rfl rfl (load_agg (vs := evB ev0) (n := 5) (U := 41) (fz := (0, 0)) (by simp; exact .inr rfl) rfl) rfl rfl (by rw [hg])
    · rw [if_neg (by simpa using h2)] at hg
      refine WP.seq <| WP.region <| v0 (S0.loadAL rfl) rfl <| ?_
      refine vcd (S1.callF rfl (evRight_spec (x := ⟨numIs s a 0, numIs s a 1, x1, y1, numIs s a 2⟩) (by dsimp only; omega)) take0) rfl ?_
      generalize hr : rightE ⟨numIs s a 0, numIs s a 1, x1, y1, numIs s a 2⟩ = r at hg
      refine v0 (S0.not rfl) rfl <| v0 (S0.assign rfl) rfl <| vE <| ?_
      cases r with
      | false =>
        refine WP.condTh rfl (rfl) ?_
        rw [if_pos rfl] at hg
        refine WP.seq <| WP.region <| v0 (S0.build rfl (qs := []) rfl) rfl <| vs (S1.storeA rfl rfl rfl) <| v0 (S0.assign rfl) rfl <| v0 (S0.assign rfl) rfl <| vE <| WP.ret <| ?_
        exact rce rfl rfl (load_agg (vs := evB ev0) (n := 5) (U := 41) (fz := (0, 0)) (by simp; exact .inr rfl) rfl) rfl rfl (by rw [hg])
      | true =>
        refine WP.condFh rfl (rfl) ?_
        rw [if_neg (by decide)] at hg
        refine WP.skip <| WP.seq <| WP.region <| v0 (S0.loadAL rfl) rfl <| v0 (S0.move rfl) rfl <| vs (S1.storeA rfl rfl rfl) <| v0 (S0.assign rfl) rfl <| v0 (S0.assign rfl) rfl <| vE <| WP.ret <| ?_
        exact rce rfl rfl (load_agg (vs := evB ⟨numIs s a 0, numIs s a 1, x1, y1, numIs s a 2⟩) (n := 5) (U := 41) (fz := (0, 0)) (by simp [partE]) rfl) rfl rfl (by rw [hg])
theorem eage_spec {e : Ev} (he : -1000000000000 ≤ e.e ∧ e.e ≤ 1000000000000) {n : Int} (hn : n ≤ 1000000000000) : FN Tryz.prog 107 [.agg ⟨evB e⟩, .int .i64 n] [] (is (.agg ⟨evB (ageE e n)⟩) []) := by
  refine FN.quiet ?_
  rw [ageE_prog]
  refine FN.intro 18 [(0, .agg ⟨evB e⟩), (1, .int .i64 n)] Tryz.func107 rfl (enters Tryz.func107 (by kernel_rfl) rfl) Tryz.ntmps107 rfl rfl ?_
  refine WP.seq <| WP.region <| vn (S1.box rfl rfl) rfl fun b2 => vn (S1.alloc) rfl fun b4 => vE <| WP.seq <| WP.seq <| WP.region <| v0 (S0.move rfl) rfl <| v0 (S0.cmp rfl rfl rfl) rfl <| vE <| ?_
  first | refine WP.condP rfl (fun h1 => ?_) (fun h1 => ?_) | refine WP.condN rfl (fun h1 => ?_) (fun h1 => ?_) | refine WP.cond rfl (fun h1 => ?_) (fun h1 => ?_)
  · rw [if_pos h1]
    refine WP.region <| v0 (S0.fieldAddr rfl) rfl <| v0 (S0.load rfl rfl) rfl <| ?_
    refine v0 (S0.max2 (c := max 0 e.e) rfl rfl (by split <;> omega)) rfl <| ?_
    refine v0 (S0.fieldAddr rfl) rfl <| v0 (S0.load rfl rfl) rfl <| ?_
    refine v0 (S0.max2 (c := max 0 e.e) rfl rfl (by split <;> omega)) rfl <| ?_
    refine v0 (S0.move rfl) rfl <| ?_
    refine v0 (S0.min2 (c := min (max 0 e.e) n) rfl rfl (by split <;> omega)) rfl <| ?_
    refine v0 (S0.ari rfl rfl rfl (wrap_i64 (by omega))) rfl <| v0 (S0.fieldAddr rfl) rfl <| vs (S1.store rfl rfl (by first | rfl | exact IsSl.cv (by assumption))) <| vE <| WP.seq <| WP.region <| v0 (S0.loadAL rfl) rfl <| vs (S1.storeA rfl rfl rfl) <| vE <| WP.ret <| ?_
    exact rc1 rfl rfl (load_agg (vs := evB { e with e := max 0 e.e - min (max 0 e.e) n }) (n := 5) (U := 41) (fz := (0, 0)) (by simp) rfl) rfl
  · rw [if_neg h1]
    refine WP.skip <| WP.seq <| WP.region <| v0 (S0.loadAL rfl) rfl <| vs (S1.storeA rfl rfl rfl) <| vE <| WP.ret <| ?_
    exact rc1 rfl rfl (load_agg (vs := evB e) (n := 5) (U := 41) (fz := (0, 0)) (by simp) rfl) rfl
end Go.Proofs.YtjpjebfodhbdfaaGreatDoor
namespace Go.Proofs.YtjpjebfodhbdfaaGreatDoor
open Go
theorem keys_iter {m bx : Nat} {L : ML Int} {ck : Nat} (hw : WfM L ck) : Iter Tryz.prog 117 [.pointer (some ⟨bx, 0, none⟩)] [[(bx, cel [.map (some m)] 76)]] [[(m, mapO (Value.int .i64) L ck)]] (fun (x : Int × Value × Nat) => [.int .i64 x.1]) (fun pre x => x ∈ L ∧ x ∉ pre) (fun xs => xs.Perm L) := by
  refine ⟨enters Tryz.func117 (by kernel_rfl) rfl, fun l J Jx hJ hY h0 hJ0 => ?_⟩
  show FN _ _ _ ([(bx, cel [.map (some m)] 76)] :: h0) _
  obtain ⟨h2, hp2⟩ := hJ [] h0 hJ0
  refine FN.intro 14 [(0, .func (.yield l) #[] #[]), (1, .pointer (some ⟨bx, 0, none⟩))] Tryz.func117 rfl (enters Tryz.func117 (by kernel_rfl) rfl) Tryz.ntmps117 rfl rfl ?_
  refine WP.seq <| WP.region <| v0 (S0.load rfl rfl) rfl <| ?_
  refine WO.perm (h' := [(bx, cel [.map (some m)] 76)] :: [(m, mapO (Value.int .i64) L ck)] :: h2) (k := []) (by simpa using hp2) ?_
  refine vn (S1.range rfl) rfl fun b5 => ?_
  refine vE <| WP.block <| ?_
  refine WP.loop (fun s : ML Int × Hp => s.1.Nodup ∧ (∀ x ∈ s.1, x ∈ L) ∧ J s.1 s.2) (fun s : ML Int × Hp => [(0, .func (.yield l) #[] #[]), (1, .pointer (some ⟨bx, 0, none⟩)), (5, .pointer (some ⟨b5, 0, none⟩))]) (fun s : ML Int × Hp => [(b5, .mapIter (some m) ck ⟨s.1.map (·.2.2)⟩ ck)] :: [(bx, cel [.map (some m)] 76)] :: s.2) (fun s : ML Int × Hp => L.length - s.1.length) (([], h0)) (⟨by simp, by simp, hJ0⟩) ⟨rfl, rfl, rfl, trivial⟩ ⟨[], by simpa using hp2.symm⟩ (fun s hinv => ?_)
  obtain ⟨xs, h⟩ := s
  obtain ⟨hn, hsub, hJs⟩ := hinv
  obtain ⟨h3, hp3⟩ := hJ xs h hJs
  dsimp only at *
  refine WP.seq <| WP.region <| ?_
  refine WO.perm (h' := [(b5, .mapIter (some m) ck ⟨xs.map (·.2.2)⟩ ck)] :: [(bx, cel [.map (some m)] 76)] :: [(m, mapO (Value.int .i64) L ck)] :: h3) (k := []) (by simpa using hp3) ?_
  refine ve (S1.next hw rfl) rfl ?_
  rintro _ _ (⟨rfl, rfl, hall⟩ | ⟨y, hy, hyn, rfl, rfl⟩)
  · refine v0 (S0.extract rfl rfl) rfl <| vE <| WP.seq <| ?_
    refine WP.condFh rfl (rfl) ?_
    refine WP.exit <| ?_
    refine Leaves.drop (h' := [(bx, cel [.map (some m)] 76)] :: h) (k := [[(b5, .mapIter (some m) ck ⟨xs.map (·.2.2)⟩ ck)]]) ?_ ?_
    · simp only [List.flatten_cons, List.flatten_nil, List.append_nil, List.cons_append, List.nil_append] at hp3 ⊢
      exact ((List.Perm.swap _ _ _).trans (((hp3.symm.cons _).trans (List.perm_append_singleton _ _).symm).cons _))
    refine r0 rfl ?_
    exact ⟨xs, h, rfl, .inl ⟨perm_of_all hw hn hsub hall, hJs⟩⟩
  · refine v0 (S0.extract rfl rfl) rfl <| vE <| WP.seq <| ?_
    refine WP.condTh rfl (rfl) ?_
    refine WP.skip <| WP.block <| WP.seq <| WP.region <| ?_
    refine v0 (S0.entry (pre := xs.map (·.2.2)) hw hy (hi := by first | infer_instance | (simp; infer_instance)) rfl) rfl <| ?_
    refine v0 (S0.extract rfl rfl) rfl <| v0 (S0.assign rfl) rfl <| vE <| WP.seq <| WP.region <| v0 (S0.move rfl) rfl <| v0 (S0.move rfl) rfl <| ?_
    refine ve (S1.yield (hr := [(b5, .mapIter (some m) ck ⟨xs.map (·.2.2) ++ [y.2.2]⟩ ck)] :: [(bx, cel [.map (some m)] 76)] :: []) rfl rfl (hY xs y h hJs ⟨hy, fun hm => hyn (List.mem_map.2 ⟨y, hm, rfl⟩)⟩) (by
        simp only [List.flatten_cons, List.flatten_nil, List.append_nil, List.cons_append, List.nil_append] at hp3 ⊢
        refine List.Perm.trans ?_ (List.perm_append_comm (l₁ := [_, _]))
        exact (hp3.symm.cons _).cons _)) rfl ?_
    rintro _ _ ⟨h4, ⟨bb, rfl, hpost⟩, rfl⟩
    refine v0 (S0.not rfl) rfl <| vE <| ?_
    rcases hpost with ⟨rfl, hJ2⟩ | ⟨rfl, hJ2⟩
    · refine WP.condFh rfl (rfl) ?_
      refine WP.skip <| ?_
      have hnd : (xs ++ [y]).Nodup := List.nodup_append.2 ⟨hn, by simp, fun a ha b hb e => by simp at hb; subst hb; subst e; exact hyn (List.mem_map.2 ⟨_, ha, rfl⟩)⟩
      have hsb : ∀ x ∈ xs ++ [y], x ∈ L := fun x hx => (List.mem_append.1 hx).elim (hsub x) fun h => by simp at h; subst h; exact hy
      have hle : (xs ++ [y]).length ≤ L.length := hnd.length_le_of_subset hsb
      have hpm : (h4 ++ ([(b5, Obj.mapIter (some m) ck ⟨xs.map (·.2.2) ++ [y.2.2]⟩ ck)] :: [(bx, cel [.map (some m)] 76)] :: [] : Hp)).flatten.Perm (([(b5, Obj.mapIter (some m) ck ⟨(xs ++ [y]).map (·.2.2)⟩ ck)] :: [(bx, cel [.map (some m)] 76)] :: h4 : Hp).flatten ++ ([] : Hp).flatten) := by
        simp only [List.flatten_append, List.flatten_cons, List.flatten_nil, List.append_nil, List.cons_append, List.nil_append, List.map_append, List.map_cons, List.map_nil]
        exact List.perm_append_comm (l₂ := [_, _])
      exact ⟨(xs ++ [y], h4), (by first | exact ⟨hnd, hsb, hJ2⟩ | (dsimp only; exact ⟨hnd, hsb, hJ2⟩)), (by simp at hle ⊢; omega), ⟨⟨rfl, rfl, rfl, trivial⟩, rfl, rfl⟩, ⟨[], hpm⟩⟩
    · refine WP.condTh rfl (rfl) ?_
      refine WP.ret <| ?_
      refine Leaves.drop (h' := [(bx, cel [.map (some m)] 76)] :: h4) (k := [[(b5, .mapIter (some m) ck ⟨xs.map (·.2.2) ++ [y.2.2]⟩ ck)]]) ?_ ?_
      · simp only [List.flatten_append, List.flatten_cons, List.flatten_nil, List.append_nil, List.cons_append, List.nil_append]
        refine (List.perm_append_comm (l₂ := [_, _])).trans ?_
        exact (List.Perm.swap _ _ _).trans ((List.perm_append_singleton _ _).symm.cons _)
      refine r0 rfl ?_
      exact ⟨xs ++ [y], h4, rfl, .inr hJ2⟩
theorem keys_spec (m : Nat) : FN Tryz.prog 76 [.map (some m)] [] (fun v h => ∃ bx, v = .func (.func 117) ⟨[]⟩ ⟨[.pointer (some ⟨bx, 0, none⟩)]⟩ ∧ h = [[(bx, cel [.map (some m)] 76)]]) := by
  refine FN.intro 4 [(0, .map (some m))] Tryz.func76 rfl (enters Tryz.func76 (by kernel_rfl) rfl) Tryz.ntmps76 rfl rfl ?_
  refine WP.seq <| WP.region <| vn (S1.box rfl rfl) rfl fun b1 => v0 (S0.assign rfl) rfl <| vE <| WP.seq <| WP.region <| v0 (S0.makeFunc rfl rfl) rfl <| v0 (S0.assign rfl) rfl <| vE <| WP.ret <| ?_
  refine r1 rfl rfl ?_
  exact ⟨_, rfl, rfl⟩
end Go.Proofs.YtjpjebfodhbdfaaGreatDoor
namespace Go.Proofs.YtjpjebfodhbdfaaGreatDoor
open Go
theorem appendSeq_keys {m bx : Nat} {L : ML Int} {ck : Nat} {cm : List Blk} [hm : HasC cm m (mapO (Value.int .i64) L ck)] (hw : WfM L ck) (hl : L.length ≤ 1000000) :
    FN Tryz.prog 138 [.slice none 0 0, .func (.func 117) ⟨[]⟩ ⟨[.pointer (some ⟨bx, 0, none⟩)]⟩] [[(bx, cel [.map (some m)] 76)], cm]
      (fun v h => ∃ (xs : ML Int) (row : List Blk), xs.Perm L ∧ IsSl 3 1 v (ints (xs.map (·.1))) row ∧ h = [row, cm]) := by
  refine FN.intro 13 [(0, .slice none 0 0), (1, .func (.func 117) ⟨[]⟩ ⟨[.pointer (some ⟨bx, 0, none⟩)]⟩)] Tryz.func138 rfl (enters Tryz.func138 (by kernel_rfl) rfl) Tryz.ntmps138 rfl rfl ?_
  refine WP.seq <| WP.region <| vn (S1.box rfl rfl) rfl fun b2 => v0 (S0.assign rfl) rfl <| vE <| WP.seq <| WP.seq <| WP.region <| v0 (S0.move rfl) rfl <| vE <| WP.block <| ?_
  refine WP.rangeSup (keys_iter (L := L) (ck := ck) hw) rfl (take1 (atS at0) take0) rfl (fun _ => rfl) ((fun pre h => pre.Nodup ∧ (∀ x ∈ pre, x ∈ L) ∧ ∃ v row, IsSl 3 1 v (ints (pre.map (·.1))) row ∧ h = [(b2, cel [v] 48)] :: row :: cm :: [])) ((fun _ _ _ => False)) ?_ ?_ ?_ ?_ ?_
  · rintro pre h ⟨-, -, v, row, -, rfl⟩
    exact Sup.has
  · exact ⟨_, ⟨by simp, by simp, _, [], .nil, rfl⟩, [], by simp⟩
  · rintro l pre x _ ⟨hnd, hsub, v, row, hsl, rfl⟩ ⟨hxL, hxn⟩
    show WP _ _ _ _ ⟨_, (7, _) :: _, _⟩ _
    have hpl : pre.length ≤ L.length := hnd.length_le_of_subset hsub
    have hnd' : (pre ++ [x]).Nodup := List.nodup_append.2 ⟨hnd, by simp, fun a ha b hb e => by simp at hb; subst hb; subst e; exact hxn ha⟩
    have hsub' : ∀ z ∈ pre ++ [x], z ∈ L := fun z hz => (List.mem_append.1 hz).elim (hsub z) fun h => by simp at h; subst h; exact hxL
    refine WP.region <| v0 (S0.assign rfl) rfl <| vE <| WP.block <| WP.region <| v0 (S0.load rfl rfl) rfl <| v0 (S0.move rfl) rfl <| vnv (S1.buildSlice rfl (qs := [(0, _)]) rfl rfl) rfl fun b10 => ?_
    refine ve (S1.appendL rfl hsl rfl rfl (atS (atS at0)) rfl rfl (by rw [ints_len]; simp; omega)) rfl ?_
    rintro v2 _ ⟨row2, hsl2, rfl⟩
    refine vs (S1.store rfl rfl (by first | rfl | exact IsSl.cv (by assumption))) <| vE <| ?_
    refine ⟨_, ⟨hnd', hsub', v2, row2, ?_, rfl⟩, ?_⟩
    · simpa [ints] using hsl2
    · exact ⟨_, (take1 (atS (atS at0)) (take1 at0 (take1 (atS at0) take0)))⟩
  · rintro D xs h1 hx hS ⟨hnd, hsub, v, row, hsl, rfl⟩ hsup
    refine WP.sup hsup ?_
    refine WP.appc ?_
    refine WP.seq <| WP.region <| v0 (S0.load rfl rfl) rfl <| v0 (S0.assign rfl) rfl <| vE <| WP.ret <| ?_
    refine rm (take1 at0 take0) ?_
    refine Leaves.drop (take1 (atS (atS at0)) (take1 (atS (atS at0)) take0)) ?_
    refine r1 rfl rfl ?_
    exact ⟨xs, row, hS, hsl, rfl⟩
  · rintro D c xs h1 hx hf
    exact hf.elim
theorem sorted_keys {m bx : Nat} {L : ML Int} {ck : Nat} {cm : List Blk} [hm : HasC cm m (mapO (Value.int .i64) L ck)] (hw : WfM L ck) (hl : L.length ≤ 1000000) :
    FN Tryz.prog 75 [.func (.func 117) ⟨[]⟩ ⟨[.pointer (some ⟨bx, 0, none⟩)]⟩] [[(bx, cel [.map (some m)] 76)], cm]
      (fun v h => ∃ (xs : ML Int) (row : List Blk), xs.Perm L ∧ IsSl 3 1 v (ints (sortI (xs.map (·.1)))) row ∧ h = [row, cm]) := by
  have collect : FN Tryz.prog 115 [.func (.func 117) ⟨[]⟩ ⟨[.pointer (some ⟨bx, 0, none⟩)]⟩] [[(bx, cel [.map (some m)] 76)], cm]
      (fun v h => ∃ (xs : ML Int) (row : List Blk), xs.Perm L ∧ IsSl 3 1 v (ints (xs.map (·.1))) row ∧ h = [row, cm]) := by
    refine FN.intro 5 [(0, .func (.func 117) ⟨[]⟩ ⟨[.pointer (some ⟨bx, 0, none⟩)]⟩)] Tryz.func115 rfl (enters Tryz.func115 (by kernel_rfl) rfl) Tryz.ntmps115 rfl rfl ?_
    refine WP.seq <| WP.region <| v0 (S0.assign rfl) rfl <| vE <| WP.seq <| WP.region <| v0 (S0.move rfl) rfl <| ?_
    refine vc (S1.callF rfl (appendSeq_keys (ck := ck) hw hl) (take1 at0 (take1 at0 take0))) rfl ?_
    rintro v _ ⟨xs, row, hp, hs, rfl⟩
    refine app ?_
    refine v0 (S0.assign rfl) rfl <| vE <| WP.ret <| ?_
    refine r1 rfl rfl ?_
    exact ⟨xs, row, hp, hs, rfl⟩
  refine FN.intro 9 [(0, .func (.func 117) ⟨[]⟩ ⟨[.pointer (some ⟨bx, 0, none⟩)]⟩)] Tryz.func75 rfl (enters Tryz.func75 (by kernel_rfl) rfl) Tryz.ntmps75 rfl rfl ?_
  refine WP.seq <| WP.region <| v0 (S0.assign rfl) rfl <| vE <| WP.seq <| WP.region <| v0 (S0.move rfl) rfl <| ?_
  refine vc (S1.callF rfl (collect) (take1 at0 (take1 at0 take0))) rfl ?_
  rintro v _ ⟨xs, row, hp, hs, rfl⟩
  refine app ?_
  refine v0 (S0.assign rfl) rfl <| vE <| WP.seq <| WP.region <| v0 (S0.move rfl) rfl <| ?_
  refine vc (S1.callF rfl (sort_spec (enters Tryz.func116 (by kernel_rfl) rfl) Tryz.slices_Sort_int Tryz.slices_Sort_int_none hs (by have := hp.length_eq; simp; omega)) (take1 at0 take0)) rfl ?_
  rintro _ _ ⟨rfl, row2, hs2, rfl⟩
  refine app ?_
  refine vE <| WP.seq <| WP.region <| v0 (S0.move rfl) rfl <| v0 (S0.assign rfl) rfl <| vE <| WP.ret <| ?_
  refine r1 rfl rfl ?_
  exact ⟨xs, row2, hp, hs2, rfl⟩
end Go.Proofs.YtjpjebfodhbdfaaGreatDoor
namespace Go.Proofs.YtjpjebfodhbdfaaGreatDoor
open Go
structure MkA (A : ML Int) (ck : Nat) (M : List MkT) : Prop where
  wf : WfM A ck
  ms : ∀ o, getM A o = (mkO M o).map (Value.int .i64)
theorem MkA.nil : MkA [] 0 [] := ⟨WfM.nil, fun _ => rfl⟩
theorem MkA.keys {A : ML Int} {ck : Nat} {M : List MkT} (h : MkA A ck M) (hr : RisM M) : (A.map (·.1)).Perm (M.map (·.1)) := by
  have h2 : (M.map (·.1)).Nodup := by
    rw [List.nodup_iff_pairwise_ne, List.pairwise_map]
    exact hr.imp fun {a b} hab e => by omega
  refine (List.perm_ext_iff_of_nodup h.wf.keys h2).2 fun i => ?_
  have e1 := h.ms i
  have e2 := get_none_iff (L := A) (k := i)
  have e3 := mkO_none (M := M) (o := i)
  rw [e1] at e2
  have : i ∉ A.map (·.1) ↔ i ∉ M.map (·.1) := by
    rw [← e2, ← e3]; cases mkO M i <;> simp
  exact Decidable.not_iff_not.1 this
theorem MkA.len {A : ML Int} {ck : Nat} {M : List MkT} (h : MkA A ck M) (hr : RisM M) : A.length = M.length := by simpa using (h.keys hr).length_eq
theorem sortI_pw (l : List Int) : (sortI l).Pairwise (· ≤ ·) := by
  have := List.pairwise_mergeSort (le := fun x y : Int => decide (x ≤ y)) (by intro a b c h1 h2; simp at *; omega) (by intro a b; simp; omega) l
  exact this.imp (fun h => by simpa using h)
theorem sortI_asc {l m : List Int} (hp : l.Perm m) (hm : m.Pairwise (· < ·)) : sortI l = m :=
  ((List.mergeSort_perm _ _).trans hp).eq_of_pairwise (fun x y _ _ h1 h2 => by omega) (sortI_pw l) (hm.imp fun h => by omega)
theorem MkA.sort {A : ML Int} {ck : Nat} {M : List MkT} (h : MkA A ck M) (hr : RisM M) {xs : ML Int} (hp : xs.Perm A) : sortI (xs.map (·.1)) = M.map (·.1) :=
  sortI_asc ((hp.map _).trans (h.keys hr)) (List.pairwise_map.2 hr)
theorem MkA.put {A : ML Int} {ck : Nat} {M : List MkT} (h : MkA A ck M) (m : MkT) : MkA (putM A ck m.1 (.int .i64 m.2)) (clkM A ck m.1) (setMk M m) :=
  ⟨h.wf.put _ _, fun o => by
    rw [get_put, mkO_set]
    by_cases e : o = m.1
    · simp [e]
    · simp only [e, if_false]; exact h.ms o⟩
theorem mk_getD (o : Option Int) : (o.map (Value.int .i64)).getD (.int .i64 0) = .int .i64 (o.getD 0) := by cases o <;> rfl
abbrev enN (x : Nat × Ev) : List Value := [.int .i64 (x.1 : Int), .int .i64 x.2.o, .int .i64 x.2.s, sv x.2.t, sv x.2.l, .int .i64 x.2.e]
theorem enN_len (x : Nat × Ev) : (enN x).length = 5 + 1 := rfl
abbrev bkB (bb lb : Nat) (v : Value) (m : Nat) (n : Int) : Blk := (bb, .cells ⟨[ptrB lb, v, .map (some m), .int .i64 n]⟩ 79 (0, 0))
def IsCt (bb lb : Nat) (b : Ct) (cc : List Blk) : Prop := ∃ v row m A ck, IsSl 102 6 v (b.L.flatMap enN) row ∧ MkA A ck b.M ∧ cc = bkB bb lb v m (b.n : Int) :: (m, mapO (Value.int .i64) A ck) :: row
structure CtW (b : Ct) : Prop where
  ms : sortedM b.M = true
  len : b.L.length ≤ 64
  ev : ∀ x ∈ b.L, rightE x.2 = true ∧ x.1 ≤ b.n
theorem CtOk.w {b : Ct} (h : CtOk b) : CtW b := ⟨h.ms, h.len, fun x hx => ⟨(h.ev x hx).1, (h.top x hx).2⟩⟩
theorem CtW.ris {b : Ct} (h : CtW b) : RisM b.M ∧ b.M.length ≤ 32 := ⟨(sortedM_iff.1 h.ms).1, (sortedM_iff.1 h.ms).2.2⟩
theorem count_spec {bb lb : Nat} {b : Ct} {cc : List Blk} (h : IsCt bb lb b cc) : FN Tryz.prog 33 [ptrB bb] [cc] (is (.int .i64 (b.n : Int)) [cc]) := by
  obtain ⟨v, row, m, A, ck, hs, hA, rfl⟩ := h
  refine FN.intro 7 [(0, ptrB bb)] Tryz.func33 rfl (enters Tryz.func33 (by kernel_rfl) rfl) Tryz.ntmps33 rfl rfl ?_
  refine WP.seq <| WP.region <| v0 (S0.assign rfl) rfl <| vE <| WP.seq <| WP.region <| v0 (S0.move rfl) rfl <| v0 (S0.nilCheck rfl) rfl <| v0 (S0.fieldAddr rfl) rfl <| v0 (S0.load rfl rfl) rfl <| v0 (S0.assign rfl) rfl <| vE <| WP.ret <| ?_
  refine r1 rfl rfl ⟨?_, rfl⟩
  rfl
theorem room_spec {bb lb : Nat} {b : Ct} {cc : List Blk} (h : IsCt bb lb b cc) (ho : CtW b) : FN Tryz.prog 34 [ptrB bb] [cc] (is (.int .i64 (64 - (b.L.length : Int))) [cc]) := by
  obtain ⟨v, row, m, A, ck, hs, hA, rfl⟩ := h
  obtain ⟨a, cap, rfl, hcap, hrow⟩ := IsSl.elems (k := 5) enN_len hs
  have hl := ho.len
  refine FN.intro 9 [(0, ptrB bb)] Tryz.func34 rfl (enters Tryz.func34 (by kernel_rfl) rfl) Tryz.ntmps34 rfl rfl ?_
  refine WP.seq <| WP.region <| v0 (S0.assign rfl) rfl <| vE <| WP.seq <| WP.region <| v0 (S0.move rfl) rfl <| v0 (S0.nilCheck rfl) rfl <| v0 (S0.fieldAddr rfl) rfl <| v0 (S0.load rfl rfl) rfl <| v0 (S0.lenSl rfl) rfl <| v0 (S0.ari rfl rfl rfl (wrap_i64 (by omega))) rfl <| v0 (S0.assign rfl) rfl <| vE <| WP.ret <| ?_
  refine r1 rfl rfl ⟨?_, rfl⟩
  rfl
theorem seq_spec {bb lb : Nat} {b : Ct} {cc : List Blk} (h : IsCt bb lb b cc) (o : Int) : FN Tryz.prog 27 [ptrB bb, .int .i64 o] [cc] (is (.int .i64 (seqK b o)) [cc]) := by
  obtain ⟨v, row, m, A, ck, hs, hA, rfl⟩ := h
  refine FN.intro 11 [(0, ptrB bb), (1, .int .i64 o)] Tryz.func27 rfl (enters Tryz.func27 (by kernel_rfl) rfl) Tryz.ntmps27 rfl rfl ?_
  refine WP.seq <| WP.region <| v0 (S0.assign rfl) rfl <| vE <| WP.seq <| WP.region <| v0 (S0.move rfl) rfl <| v0 (S0.nilCheck rfl) rfl <| v0 (S0.fieldAddr rfl) rfl <| v0 (S0.load rfl rfl) rfl <| v0 (S0.move rfl) rfl <| ?_
  refine v0 (S0.lookupV (ek := Value.int .i64) (k := o) (v := .int .i64 (seqK b o)) rfl rfl (by rw [hA.ms, mk_getD]; rfl)) rfl <| ?_
  refine v0 (S0.assign rfl) rfl <| vE <| WP.ret <| ?_
  refine r1 rfl rfl ⟨?_, rfl⟩
  rfl
abbrev evsB (E : List Ev) : List Value := E.flatMap evB
theorem evsB_len (E : List Ev) : (evsB E).length = E.length * 5 := flat_len evB_len E
theorem list_spec {bb lb : Nat} {b : Ct} {cc : List Blk} (h : IsCt bb lb b cc) (ho : CtW b) : FN Tryz.prog 35 [ptrB bb] [cc] (fun u h => ∃ row, IsSl 41 5 u (evsB (b.L.map (·.2))) row ∧ h = [row, cc]) := by
  obtain ⟨v, row, m, A, ck, hs, hA, rfl⟩ := h
  obtain ⟨a, cap, rfl, hcap, hrow⟩ := IsSl.elems (k := 5) enN_len hs
  have hl := ho.len
  refine FN.intro 22 [(0, ptrB bb)] Tryz.func35 rfl (enters Tryz.func35 (by kernel_rfl) rfl) Tryz.ntmps35 rfl rfl ?_
  refine WP.seq <| WP.region <| v0 (S0.assign rfl) rfl <| vE <| WP.seq <| WP.region <| v0 (S0.assign rfl) rfl <| vE <| WP.seq <| WP.seq <| WP.region <| v0 (S0.move rfl) rfl <| v0 (S0.nilCheck rfl) rfl <| v0 (S0.fieldAddr rfl) rfl <| v0 (S0.load rfl rfl) rfl <| v0 (S0.lenSl rfl) rfl <| v0 (S0.move rfl) rfl <| vE <| WP.block <| ?_
  refine WP.loop (fun st : Nat × Value × List Blk => st.1 ≤ b.L.length ∧ IsSl 41 5 st.2.1 (evsB ((b.L.take st.1).map (·.2))) st.2.2) (fun st : Nat × Value × List Blk => [(3, st.2.1), (9, .slice a b.L.length cap), (10, .int .i64 (b.L.length : Int)), (11, .int .i64 (st.1 : Int))]) (fun st : Nat × Value × List Blk => [st.2.2, bkB bb lb (.slice a b.L.length cap) m (b.n : Int) :: (m, mapO (Value.int .i64) A ck) :: row]) (fun st : Nat × Value × List Blk => b.L.length - st.1) ((0, .slice none 0 0, [])) (⟨Nat.zero_le _, IsSl.nil⟩) ⟨rfl, rfl, rfl, rfl, trivial⟩ ⟨[], (pm fun a_ => by (try simp only [List.flatten_append, List.flatten_cons, List.flatten_nil, List.append_nil, List.cons_append, List.nil_append, List.append_assoc, nOf_app, nOf_cons, nOf_nil, Nat.add_zero, Nat.zero_add, List.map_append, List.map_cons, List.map_nil, cel, sv]); first | done | omega)⟩ (fun st hinv => ?_)
  obtain ⟨k, ov, orow⟩ := st
  obtain ⟨hk, hos⟩ := hinv
  dsimp only at hk hos ⊢
  refine WP.seq <| WP.region <| v0 (S0.cmp rfl rfl rfl) rfl <| vE <| WP.seq <| ?_
  first | refine WP.condP rfl (fun h1 => ?_) (fun h1 => ?_) | refine WP.condN rfl (fun h1 => ?_) (fun h1 => ?_) | refine WP.cond rfl (fun h1 => ?_) (fun h1 => ?_)
  · have hlt : k < b.L.length := by omega
    rcases hrow with ⟨e, -⟩ | ⟨b1, sp1, rfl, rfl, hsp1⟩
    · rw [e] at hlt; simp at hlt
    have hx : b.L[k]? = some b.L[k] := by simp [hlt]
    generalize b.L[k] = x at hx
    have gA := flat_take enN_len sp1 b.L k x hx
    refine WP.skip <| WP.seq <| WP.block <| WP.seq <| WP.region <| ?_
    refine v0 (S0.indexN (k := 6) rfl rfl hlt) rfl <| ?_
    refine v0 (S0.loadA rfl gA rfl) rfl <| ?_
    refine vn (S1.alloc) rfl fun b5 => vs (S1.storeA rfl rfl rfl) <| vE <| WP.region <| v0 (S0.move rfl) rfl <| v0 (S0.fieldAddr rfl) rfl <| v0 (S0.loadAL rfl) rfl <| vnv (S1.buildSlice rfl (qs := [(0, _)]) rfl rfl) rfl fun b18 => ?_
    refine ve (S1.appendL rfl hos rfl rfl (atS (atS at0)) rfl rfl (by rw [evsB_len, List.length_map, List.length_take]; simp; omega)) rfl ?_
    rintro v2 _ ⟨row2, hs2, rfl⟩
    have hs3 : IsSl 41 5 v2 (evsB ((b.L.take (k + 1)).map (·.2))) row2 := by
      rw [List.take_add_one, hx]; simpa using hs2
    refine v0 (S0.assign rfl) rfl <| vE <| WP.region <| v0 (S0.ari rfl rfl rfl (wrap_i64 (by omega))) rfl <| v0 (S0.move rfl) rfl <| vE <| ?_
    exact ⟨(k + 1, v2, row2), (by first | exact ⟨hlt, hs3⟩ | (dsimp only; exact ⟨hlt, hs3⟩)), (show b.L.length - (k + 1) < b.L.length - k by omega), ⟨⟨rfl, rfl, rfl, rfl, trivial⟩, rfl, rfl⟩, ⟨_, (take1 at0 (take1 (atS (atS at0)) take0))⟩⟩
  · have e : k = b.L.length := by omega
    rw [e, List.take_length] at hos
    refine WP.exit <| WP.seq <| WP.region <| v0 (S0.move rfl) rfl <| v0 (S0.assign rfl) rfl <| vE <| WP.ret <| ?_
    refine r1 rfl rfl ?_
    exact ⟨orow, hos, rfl⟩
end Go.Proofs.YtjpjebfodhbdfaaGreatDoor
