import Derived.Test.YtjpjebfodhbdfaaGreatDoorMg3
import Derived.Test.YtjpjebfodhbdfaaGreatDoorMg2
import Derived.Test.YtjpjebfodhbdfaaGreatDoorMg1
import Derived.Test.YtjpjebfodhbdfaaGreatDoorShelf
set_option linter.unusedSimpArgs false
set_option linter.unusedVariables false
set_option linter.unnecessarySimpa false
namespace Go.Proofs.YtjpjebfodhbdfaaGreatDoor
open Go
theorem part_le {x : Str} : (partB x).1 ≤ 1099511627776 ∧ (partB x).2.1.length ≤ x.length := by
  unfold partB
  split
  · exact ⟨by simp, by simp⟩
  · split
    · exact ⟨by simp, by simp⟩
    · exact ⟨by dsimp only; omega, by dsimp only; rw [List.length_drop]; omega⟩
theorem head_le {s : Str} (hs : s.length ≤ 65536) : (headB s).1 ≤ 1099511627776 ∧ (headB s).2.1.length ≤ 65536 := by
  unfold headB
  split
  · exact ⟨by simp, by simp⟩
  · split
    · exact ⟨by simp, by simp⟩
    · rename_i h1
      split
      · exact ⟨by simp, by simp⟩
      · obtain ⟨x, b, ho, -, -, -, hx⟩ := openB_ok (Decidable.not_not.1 h1)
        have := part_le (x := x)
        rw [ho]
        exact ⟨this.1, by have := this.2; dsimp only; omega⟩
theorem wrow_spec {rd : Nat} (hr : rd < 4611686018427387904) {s : Str} (hs : s.length ≤ 800000) : FN Tryz.prog 80 [.int .i64 (rd : Int), sv s] [] (is (sv (rowB rd s)) []) := by
  have h1 := putV_le rd
  refine FN.intro 11 [(0, .int .i64 (rd : Int)), (1, sv s)] Tryz.func80 rfl (enters Tryz.func80 (by kernel_rfl) rfl) Tryz.ntmps80 rfl rfl ?_
  refine WP.seq <| WP.region <| v0 (S0.assign rfl) rfl <| vE <| WP.seq <| WP.region <| v0 (S0.move rfl) rfl <| v0 (S0.convI rfl (wrap_u64 (by omega))) rfl <| ?_
  refine vcd (S1.callF rfl (put_spec (n := rd) (by omega)) take0) rfl ?_
  refine v0 (S0.move rfl) rfl <| ?_
  refine v0 (S0.addS rfl rfl (by omega)) rfl <| ?_
  refine vcd (S1.callF rfl (seal_spec (s := putV rd ++ s) (by rw [List.length_append]; omega)) take0) rfl ?_
  refine v0 (S0.assign rfl) rfl <| vE <| WP.ret <| ?_
  refine r1 rfl rfl ⟨?_, rfl⟩
  rfl
theorem parted_spec {x : Str} (hx : x.length ≤ 1000000) : FN Tryz.prog 119 [sv x] [] (is (.tuple ⟨[.int .i64 ((partB x).1 : Int), sv (partB x).2.1, .int .i64 (partB x).2.2]⟩) []) := by
  refine FN.intro 26 [(0, sv x)] Tryz.func119 rfl (enters Tryz.func119 (by kernel_rfl) rfl) Tryz.ntmps119 rfl rfl ?_
  refine WP.seq <| WP.region <| v0 (S0.assign rfl) rfl <| v0 (S0.assign rfl) rfl <| v0 (S0.assign rfl) rfl <| vE <| WP.seq <| WP.region <| v0 (S0.move rfl) rfl <| ?_
  refine vcd (S1.callF rfl (get_spec (s := x) (a := 0) hx (by omega)) take0) rfl ?_
  refine v0 (S0.move rfl) rfl <| v0 (S0.extract rfl rfl) rfl <| v0 (S0.extract rfl rfl) rfl <| v0 (S0.extract rfl rfl) rfl <| v0 (S0.assign rfl) rfl <| v0 (S0.assign rfl) rfl <| v0 (S0.assign rfl) rfl <| vE <| WP.seq <| WP.block <| WP.seq <| WP.region <| v0 (S0.move rfl) rfl <| v0 (S0.cmp rfl rfl rfl) rfl <| v0 (S0.assign rfl) rfl <| vE <| ?_
  first | refine WP.condP rfl (fun h1 => ?_) (fun h1 => ?_) | refine WP.condN rfl (fun h1 => ?_) (fun h1 => ?_) | refine WP.cond rfl (fun h1 => ?_) (fun h1 => ?_)
  · refine WP.seq <| WP.region <| v0 (S0.move rfl) rfl <| v0 (S0.assign rfl) rfl <| v0 (S0.assign rfl) rfl <| v0 (S0.assign rfl) rfl <| vE <| WP.ret <| ?_
    refine r3 rfl rfl rfl rfl ⟨?_, rfl⟩
    unfold partB; rw [if_pos h1]; rfl
  · have h1' : ¬ (getV x 0).2.2 ≠ 0 := by simpa using h1
    obtain ⟨n, k, hg, hn, hk, hak, -⟩ := getV_ok (Decidable.not_not.1 h1')
    have q1 : (getV x 0).1 = (n : Int) := by rw [hg]
    have q2 : (getV x 0).2.1 = (k : Int) := by rw [hg]; simp
    have hp : partB x = if 1099511627776 < (n : Int) then (0, [], 4) else (n, x.drop k, 0) := by unfold partB; rw [if_neg h1', q1, q2, Int.toNat_natCast, Int.toNat_natCast]
    rw [q1, q2]
    refine WP.seq <| WP.region <| v0 (S0.move rfl) rfl <| v0 (S0.cmp rfl rfl rfl) rfl <| v0 (S0.assign rfl) rfl <| vE <| ?_
    first | refine WP.condP rfl (fun h2 => ?_) (fun h2 => ?_) | refine WP.condN rfl (fun h2 => ?_) (fun h2 => ?_) | refine WP.cond rfl (fun h2 => ?_) (fun h2 => ?_)
    · refine WP.seq <| WP.region <| v0 (S0.assign rfl) rfl <| v0 (S0.assign rfl) rfl <| v0 (S0.assign rfl) rfl <| vE <| WP.ret <| ?_
      refine r3 rfl rfl rfl rfl ⟨?_, rfl⟩
      rw [hp, if_pos (by omega)]; rfl
    · refine WP.skip <| WP.seq <| WP.drawP [(0, none), (1, none), (2, none), (3, none), (4, none), (5, none), (6, none), (7, none)] mixed (by kernel_rfl) (by kernel_rfl) (by kernel_rfl) take0 <| w0 rfl rfl rfl (S0.move rfl) rfl <| w0 rfl rfl rfl (S0.convI rfl (wrap_i64 (by omega))) rfl <| w0 rfl rfl rfl (S0.move rfl) rfl <| w0 rfl rfl rfl (S0.move rfl) rfl <| ?_
      refine w0 rfl rfl rfl (S0.sliceSt (i := k) (j := x.length) rfl rfl rfl ⟨by omega, Nat.le_refl _⟩) rfl <| ?_
      rw [show (x.drop k).take (x.length - k) = x.drop k from List.take_of_length_le (by rw [List.length_drop]; exact Nat.le_refl _)]
      refine w0 rfl rfl rfl (S0.assign rfl) rfl <| w0 rfl rfl rfl (S0.assign rfl) rfl <| w0 rfl rfl rfl (S0.assign rfl) rfl <| wE <| WP.ret <| ?_
      refine r3 rfl rfl rfl rfl ⟨?_, rfl⟩
      rw [hp, if_neg (by omega)]
theorem whead_spec {s : Str} (hs : s.length ≤ 65536) : FN Tryz.prog 77 [sv s] [] (is (.tuple ⟨[.int .i64 ((headB s).1 : Int), sv (headB s).2.1, .int .i64 (headB s).2.2]⟩) []) := by
  refine FN.intro 30 [(0, sv s)] Tryz.func77 rfl (enters Tryz.func77 (by kernel_rfl) rfl) Tryz.ntmps77 rfl rfl ?_
  refine WP.seq <| WP.region <| v0 (S0.assign rfl) rfl <| v0 (S0.assign rfl) rfl <| v0 (S0.assign rfl) rfl <| vE <| WP.seq <| WP.seq <| WP.region <| v0 (S0.move rfl) rfl <| v0 (S0.cmpS rfl rfl rfl) rfl <| vE <| ?_
  first | refine WP.condP rfl (fun h1 => ?_) (fun h1 => ?_) | refine WP.condN rfl (fun h1 => ?_) (fun h1 => ?_) | refine WP.cond rfl (fun h1 => ?_) (fun h1 => ?_)
  · refine WP.seq <| WP.region <| v0 (S0.assign rfl) rfl <| v0 (S0.assign rfl) rfl <| v0 (S0.assign rfl) rfl <| vE <| WP.ret <| ?_
    refine r3 rfl rfl rfl rfl ⟨?_, rfl⟩
    unfold headB; rw [if_pos h1]; rfl
  · have h1' : ¬ s = [] := by simpa using h1
    have hh : headB s = if (openB s 0).2.2 ≠ 0 then (0, [], (openB s 0).2.2) else if (openB s 0).2.1 ≠ (s.length : Int) then (0, [], 4) else partB (openB s 0).1 := by unfold headB; rw [if_neg h1']
    refine WP.skip <| WP.seq <| WP.region <| v0 (S0.move rfl) rfl <| ?_
    refine vcd (S1.callF rfl (opens_spec (s := s) (a := 0) (by omega) (by omega)) take0) rfl ?_
    refine v0 (S0.move rfl) rfl <| v0 (S0.extract rfl rfl) rfl <| v0 (S0.extract rfl rfl) rfl <| v0 (S0.extract rfl rfl) rfl <| v0 (S0.assign rfl) rfl <| v0 (S0.assign rfl) rfl <| v0 (S0.assign rfl) rfl <| vE <| WP.seq <| WP.block <| WP.seq <| WP.region <| v0 (S0.move rfl) rfl <| v0 (S0.cmp rfl rfl rfl) rfl <| v0 (S0.assign rfl) rfl <| vE <| ?_
    first | refine WP.condP rfl (fun h2 => ?_) (fun h2 => ?_) | refine WP.condN rfl (fun h2 => ?_) (fun h2 => ?_) | refine WP.cond rfl (fun h2 => ?_) (fun h2 => ?_)
    · refine WP.seq <| WP.region <| v0 (S0.move rfl) rfl <| v0 (S0.assign rfl) rfl <| v0 (S0.assign rfl) rfl <| v0 (S0.assign rfl) rfl <| vE <| WP.ret <| ?_
      refine r3 rfl rfl rfl rfl ⟨?_, rfl⟩
      rw [hh, if_pos h2]; rfl
    · have h2' : ¬ (openB s 0).2.2 ≠ 0 := by simpa using h2
      obtain ⟨x, b, ho, -, hb, -, hx⟩ := openB_ok (Decidable.not_not.1 h2')
      rw [if_neg h2', ho] at hh
      dsimp only at hh
      rw [ho]
      refine WP.seq <| WP.region <| v0 (S0.move rfl) rfl <| v0 (S0.move rfl) rfl <| v0 (S0.lenSt rfl) rfl <| v0 (S0.cmp rfl rfl rfl) rfl <| v0 (S0.assign rfl) rfl <| vE <| ?_
      first | refine WP.condP rfl (fun h3 => ?_) (fun h3 => ?_) | refine WP.condN rfl (fun h3 => ?_) (fun h3 => ?_) | refine WP.cond rfl (fun h3 => ?_) (fun h3 => ?_)
      · dsimp only at h3
        refine WP.seq <| WP.region <| v0 (S0.assign rfl) rfl <| v0 (S0.assign rfl) rfl <| v0 (S0.assign rfl) rfl <| vE <| WP.ret <| ?_
        refine r3 rfl rfl rfl rfl ⟨?_, rfl⟩
        rw [hh, if_pos (by omega)]; rfl
      · dsimp only at h3
        rw [if_neg (by omega)] at hh
        refine WP.skip <| WP.seq <| WP.region <| v0 (S0.move rfl) rfl <| ?_
        refine vcd (S1.callF rfl (parted_spec (x := x) (by omega)) take0) rfl ?_
        refine v0 (S0.extract rfl rfl) rfl <| v0 (S0.extract rfl rfl) rfl <| v0 (S0.extract rfl rfl) rfl <| v0 (S0.assign rfl) rfl <| v0 (S0.assign rfl) rfl <| v0 (S0.assign rfl) rfl <| vE <| WP.ret <| ?_
        refine r3 rfl rfl rfl rfl ⟨?_, rfl⟩
        rw [hh]
abbrev rdrC (ba bl br : Nat) (v : Value) (a rd : Nat) : List Blk := [(ba, cel [.int .i64 (a : Int)] 3), (bl, cel [v] 59), (br, cel [.int .i64 (rd : Int)] 3)]
theorem wreader_spec {va : Option Addr} {n cap rd : Nat} : FN Tryz.prog 79 [.slice va n cap, .int .i64 (rd : Int)] [] (fun u h => ∃ ba bl br, u = .func (.func 120) ⟨[]⟩ ⟨[ptrB ba, ptrB bl, ptrB br]⟩ ∧ h = [rdrC ba bl br (.slice va n cap) 0 rd]) := by
  refine FN.intro 7 [(0, .slice va n cap), (1, .int .i64 (rd : Int))] Tryz.func79 rfl (enters Tryz.func79 (by kernel_rfl) rfl) Tryz.ntmps79 rfl rfl ?_
  refine WP.seq <| WP.region <| vn (S1.box rfl rfl) rfl fun b2 => vn (S1.box rfl rfl) rfl fun b3 => v0 (S0.assign rfl) rfl <| vE <| WP.seq <| WP.region <| vn (S1.alloc) rfl fun b5 => vs (S1.store rfl rfl (by first | rfl | exact IsSl.cv (by assumption))) <| vE <| WP.seq <| WP.region <| v0 (S0.makeFunc rfl rfl) rfl <| v0 (S0.assign rfl) rfl <| vE <| WP.ret <| ?_
  refine Leaves.drop (h' := [[(b5, cel [.int .i64 0] 3), (b2, cel [.slice va n cap] 59), (b3, cel [.int .i64 (rd : Int)] 3)]]) (k := []) (pm fun a_ => by (try simp only [List.flatten_append, List.flatten_cons, List.flatten_nil, List.append_nil, List.cons_append, List.nil_append, List.append_assoc, nOf_app, nOf_cons, nOf_nil, Nat.add_zero, Nat.zero_add, List.map_append, List.map_cons, List.map_nil, cel, sv]); first | done | omega) ?_
  refine r1 rfl rfl ?_
  exact ⟨b5, b2, b3, rfl, rfl⟩
structure NextR (rd : Nat) (L : List Str) (a : Nat) (x : Str) (b : Bool) (a' : Nat) : Prop where
  le : a ≤ a' ∧ a' ≤ L.length
  t : b = true → a < a' ∧ recsB rd (L.drop a) = x :: recsB rd (L.drop a')
  f : b = false → recsB rd (L.drop a) = []
theorem wnext_spec {ba bl br rd a : Nat} (hr : rd < 4611686018427387904) {v : Value} {L : List Str} {row : List Blk} (hs : IsSl 9 1 v (strs L) row) (hL : ∀ x ∈ L, x.length ≤ 65536) (hl : L.length ≤ 1000000) (ha : a ≤ L.length) :
    FN Tryz.prog 120 [ptrB ba, ptrB bl, ptrB br] [rdrC ba bl br v a rd, row] (fun u h => ∃ x b a', NextR rd L a x b a' ∧ u = .tuple ⟨[sv x, .bool b]⟩ ∧ h = [rdrC ba bl br v a' rd, row]) := by
  obtain ⟨va, cap, rfl, hcap, hrow⟩ := hs.strsE
  refine FN.intro 37 [(0, ptrB ba), (1, ptrB bl), (2, ptrB br)] Tryz.func120 rfl (enters Tryz.func120 (by kernel_rfl) rfl) Tryz.ntmps120 rfl rfl ?_
  refine WP.seq <| WP.region <| v0 (S0.assign rfl) rfl <| v0 (S0.assign rfl) rfl <| vE <| WP.seq <| WP.block <| ?_
  refine WP.loop (fun i : Nat => a ≤ i ∧ i ≤ L.length ∧ recsB rd (L.drop a) = recsB rd (L.drop i)) (fun i : Nat => [(0, ptrB ba), (1, ptrB bl), (2, ptrB br)]) (fun i : Nat => [rdrC ba bl br (.slice va L.length cap) i rd, row]) (fun i : Nat => L.length - i) (a) (⟨Nat.le_refl _, ha, rfl⟩) ⟨rfl, rfl, rfl, trivial⟩ ⟨_, (take1 at0 (take1 at0 take0))⟩ (fun i hinv => ?_)
  obtain ⟨hai, hi, hrec⟩ := hinv
  refine WP.seq <| WP.seq <| WP.region <| v0 (S0.load rfl rfl) rfl <| v0 (S0.load rfl rfl) rfl <| v0 (S0.lenSl rfl) rfl <| v0 (S0.cmp rfl rfl rfl) rfl <| vE <| ?_
  first | refine WP.condP rfl (fun h1 => ?_) (fun h1 => ?_) | refine WP.condN rfl (fun h1 => ?_) (fun h1 => ?_) | refine WP.cond rfl (fun h1 => ?_) (fun h1 => ?_)
  · have hlt : i < L.length := by omega
    rcases hrow with ⟨rfl, -⟩ | ⟨b1, sp1, rfl, rfl, hsp1⟩
    · simp at hlt
    have hx : L[i]? = some L[i] := by simp [hlt]
    have hxl := hL _ (List.getElem_mem hlt)
    have hdr : L.drop i = L[i] :: L.drop (i + 1) := List.drop_eq_getElem_cons hlt
    generalize L[i] = x at hx hxl hdr
    rw [hdr, recsB] at hrec
    refine WP.skip <| WP.block <| WP.seq <| WP.region <| v0 (S0.load rfl rfl) rfl <| v0 (S0.load rfl rfl) rfl <| ?_
    refine v0 (S0.index1 rfl rfl hlt) rfl <| ?_
    refine v0 (S0.load rfl (strs_get hx)) rfl <| ?_
    refine vcd (S1.callF rfl (get_spec (s := x) (a := 0) (by omega) (by omega)) take0) rfl ?_
    refine v0 (S0.move rfl) rfl <| v0 (S0.extract rfl rfl) rfl <| v0 (S0.extract rfl rfl) rfl <| v0 (S0.extract rfl rfl) rfl <| v0 (S0.assign rfl) rfl <| v0 (S0.assign rfl) rfl <| v0 (S0.assign rfl) rfl <| vE <| WP.seq <| WP.seq <| WP.region <| v0 (S0.move rfl) rfl <| v0 (S0.cmp rfl rfl rfl) rfl <| vE <| ?_
    first | refine WP.condP rfl (fun h2 => ?_) (fun h2 => ?_) | refine WP.condN rfl (fun h2 => ?_) (fun h2 => ?_) | refine WP.cond rfl (fun h2 => ?_) (fun h2 => ?_)
    · rw [if_pos h2] at hrec
      refine WP.exit <| WP.seq <| WP.region <| v0 (S0.assign rfl) rfl <| v0 (S0.assign rfl) rfl <| vE <| WP.ret <| ?_
      refine r2 rfl rfl rfl ?_
      exact ⟨[], false, i, ⟨⟨hai, hi⟩, by simp, fun _ => hrec⟩, rfl, rfl⟩
    · have h2' : ¬ (getV x 0).2.2 ≠ 0 := by simpa using h2
      rw [if_neg h2'] at hrec
      obtain ⟨n, k, hg, hn, hk, hak, -⟩ := getV_ok (Decidable.not_not.1 h2')
      have q1 : (getV x 0).1 = (n : Int) := by rw [hg]
      have q2 : (getV x 0).2.1 = (k : Int) := by rw [hg]; simp
      rw [q1, q2, Int.toNat_natCast] at hrec
      rw [q1, q2]
      refine WP.skip <| WP.seq <| WP.region <| v0 (S0.load rfl rfl) rfl <| v0 (S0.load rfl rfl) rfl <| ?_
      refine v0 (S0.index1 rfl rfl hlt) rfl <| ?_
      refine v0 (S0.load rfl (strs_get hx)) rfl <| ?_
      refine v0 (S0.move rfl) rfl <| ?_
      refine v0 (S0.sliceSt (i := k) (j := x.length) rfl rfl rfl ⟨by omega, Nat.le_refl _⟩) rfl <| ?_
      rw [show (x.drop k).take (x.length - k) = x.drop k from List.take_of_length_le (by rw [List.length_drop]; exact Nat.le_refl _)]
      refine v0 (S0.assign rfl) rfl <| vE <| WP.seq <| WP.region <| v0 (S0.load rfl rfl) rfl <| v0 (S0.ari rfl rfl rfl (wrap_i64 (by omega))) rfl <| vs (S1.store rfl rfl (by first | rfl | exact IsSl.cv (by assumption))) <| vE <| WP.seq <| WP.region <| v0 (S0.move rfl) rfl <| v0 (S0.load rfl rfl) rfl <| v0 (S0.convI rfl (wrap_u64 (by omega))) rfl <| v0 (S0.cmp rfl rfl rfl) rfl <| vE <| ?_
      first | refine WP.condP rfl (fun h3 => ?_) (fun h3 => ?_) | refine WP.condN rfl (fun h3 => ?_) (fun h3 => ?_) | refine WP.cond rfl (fun h3 => ?_) (fun h3 => ?_)
      · rw [if_pos (by omega)] at hrec
        refine WP.seq <| WP.region <| v0 (S0.move rfl) rfl <| v0 (S0.assign rfl) rfl <| v0 (S0.assign rfl) rfl <| vE <| WP.ret <| ?_
        refine r2 rfl rfl rfl ?_
        exact ⟨x.drop k, true, i + 1, ⟨⟨by omega, hlt⟩, fun _ => ⟨by omega, hrec⟩, by simp⟩, rfl, rfl⟩
      · rw [if_neg (by omega)] at hrec
        refine WP.skip <| ?_
        exact ⟨i + 1, (by first | exact ⟨by omega, hlt, hrec⟩ | (dsimp only; exact ⟨by omega, hlt, hrec⟩)), (show L.length - (i + 1) < L.length - i by omega), ⟨⟨rfl, rfl, rfl, trivial⟩, rfl, rfl⟩, ⟨_, (take1 at0 (take1 at0 take0))⟩⟩
  · have e : i = L.length := by omega
    rw [e, List.drop_length] at hrec
    refine WP.exit <| WP.seq <| WP.region <| v0 (S0.assign rfl) rfl <| v0 (S0.assign rfl) rfl <| vE <| WP.ret <| ?_
    refine r2 rfl rfl rfl ?_
    exact ⟨[], false, i, ⟨⟨hai, hi⟩, by simp, fun _ => hrec⟩, rfl, rfl⟩
end Go.Proofs.YtjpjebfodhbdfaaGreatDoor
namespace Go.Proofs.YtjpjebfodhbdfaaGreatDoor
open Go
abbrev lgB (lb db : Nat) (rd : Nat) (st : Str) (v : Value) (sure : Int) : Blk := (lb, .cells ⟨[ptrB db, .int .i64 (rd : Int), sv st, v, .int .i64 sure]⟩ 116 (0, 0))
def IsLog (lb db : Nat) (G : Lg) (c : List Blk) : Prop := ∃ v row, IsSl 9 1 v (strs G.l) row ∧ c = lgB lb db G.rd G.st v G.sure :: row
structure LgOk (G : Lg) : Prop where
  rd : G.rd ≤ 2000000000000
  l : G.l.length ≤ 900000
theorem wstate_spec {lb db : Nat} {G : Lg} {c : List Blk} (h : IsLog lb db G c) : FN Tryz.prog 38 [ptrB lb] [c] (is (sv G.st) [c]) := by
  obtain ⟨v, row, hs, rfl⟩ := h
  refine FN.intro 7 [(0, ptrB lb)] Tryz.func38 rfl (enters Tryz.func38 (by kernel_rfl) rfl) Tryz.ntmps38 rfl rfl ?_
  refine WP.seq <| WP.region <| v0 (S0.assign rfl) rfl <| vE <| WP.seq <| WP.region <| v0 (S0.move rfl) rfl <| v0 (S0.nilCheck rfl) rfl <| v0 (S0.fieldAddr rfl) rfl <| v0 (S0.load rfl rfl) rfl <| v0 (S0.assign rfl) rfl <| vE <| WP.ret <| ?_
  refine r1 rfl rfl ⟨?_, rfl⟩
  rfl
theorem wsync_spec {lb db : Nat} {G : Lg} {c : List Blk} (h : IsLog lb db G c) {D : Dk} {dc : List Blk} (hd : IsDisk db D dc) : FN Tryz.prog 61 [ptrB lb] [c, dc] (fun _ h => ∃ c' dc', IsLog lb db (syncLg G) c' ∧ IsDisk db (syncK D) dc' ∧ h = [c', dc']) := by
  obtain ⟨v, row, hs, rfl⟩ := h
  obtain ⟨a, cap, rfl, hcap, -⟩ := hs.strsE
  refine FN.intro 15 [(0, ptrB lb)] Tryz.func61 rfl (enters Tryz.func61 (by kernel_rfl) rfl) Tryz.ntmps61 rfl rfl ?_
  refine WP.seq <| WP.region <| v0 (S0.move rfl) rfl <| v0 (S0.nilCheck rfl) rfl <| v0 (S0.fieldAddr rfl) rfl <| v0 (S0.load rfl rfl) rfl <| ?_
  refine vc (S1.callF rfl (dsync_spec hd) (take1 (atS at0) take0)) rfl ?_
  rintro _ _ ⟨dc2, hd2, rfl⟩
  refine app ?_
  refine vE <| WP.region <| v0 (S0.move rfl) rfl <| v0 (S0.move rfl) rfl <| v0 (S0.nilCheck rfl) rfl <| v0 (S0.fieldAddr rfl) rfl <| v0 (S0.load rfl rfl) rfl <| v0 (S0.lenSl rfl) rfl <| v0 (S0.nilCheck rfl) rfl <| v0 (S0.fieldAddr rfl) rfl <| vs (S1.store rfl rfl (by first | rfl | exact IsSl.cv (by assumption))) <| vE <| ?_
  refine Leaves.drop (take1 (atS at0) (take1 at0 take0)) ?_
  refine r0 rfl ?_
  exact ⟨_, dc2, ⟨_, row, hs, rfl⟩, hd2, rfl⟩
theorem wrecords_spec {lb db : Nat} {G : Lg} {c : List Blk} (h : IsLog lb db G c) (ho : LgOk G) : FN Tryz.prog 40 [ptrB lb] [c] (fun u h => ∃ row, IsSl 9 1 u (strs G.l) row ∧ h = [row, c]) := by
  obtain ⟨v, row, hs, rfl⟩ := h
  have hl := ho.l
  refine FN.intro 8 [(0, ptrB lb)] Tryz.func40 rfl (enters Tryz.func40 (by kernel_rfl) rfl) Tryz.ntmps40 rfl rfl ?_
  refine WP.perm (h' := [row, [lgB lb db G.rd G.st v G.sure]]) (k := []) (pm fun a_ => by (try simp only [List.flatten_append, List.flatten_cons, List.flatten_nil, List.append_nil, List.cons_append, List.nil_append, List.append_assoc, nOf_app, nOf_cons, nOf_nil, Nat.add_zero, Nat.zero_add, List.map_append, List.map_cons, List.map_nil, cel, sv]); first | done | omega) ?_
  refine WP.seq <| WP.region <| v0 (S0.assign rfl) rfl <| vE <| WP.seq <| WP.region <| v0 (S0.move rfl) rfl <| v0 (S0.nilCheck rfl) rfl <| v0 (S0.fieldAddr rfl) rfl <| v0 (S0.load rfl rfl) rfl <| ?_
  refine vc (S1.callF rfl (clone_spec hs (by omega)) (take1 at0 take0)) rfl ?_
  rintro v2 _ ⟨row2, hs2, rfl⟩
  refine app ?_
  refine v0 (S0.assign rfl) rfl <| vE <| WP.ret <| ?_
  refine Leaves.drop (h' := [row2, lgB lb db G.rd G.st v G.sure :: row]) (k := []) (pm fun a_ => by (try simp only [List.flatten_append, List.flatten_cons, List.flatten_nil, List.append_nil, List.cons_append, List.nil_append, List.append_assoc, nOf_app, nOf_cons, nOf_nil, Nat.add_zero, Nat.zero_add, List.map_append, List.map_cons, List.map_nil, cel, sv]); first | done | omega) ?_
  refine r1 rfl rfl ?_
  exact ⟨row2, hs2, rfl⟩
theorem wappend_spec {lb db : Nat} {G : Lg} {c : List Blk} (h : IsLog lb db G c) (ho : LgOk G) {D : Dk} {dc : List Blk} (hd : IsDisk db D dc) (hk : DkOk D) (hW : D.W.length ≤ 1000000) (s : Str) : FN Tryz.prog 98 [ptrB lb, sv s] [c, dc] (fun u h => ∃ c' dc', IsLog lb db (appendLg G D s).2.1 c' ∧ IsDisk db (appendLg G D s).2.2 dc' ∧ u = .int .i64 (appendLg G D s).1 ∧ h = [c', dc']) := by
  have h0 := h
  have hrd := ho.rd
  have hgl := ho.l
  obtain ⟨v, row, hs, rfl⟩ := h
  obtain ⟨a, cap, rfl, hcap, hrow⟩ := hs.strsE
  refine FN.intro 42 [(0, ptrB lb), (1, sv s)] Tryz.func98 rfl (enters Tryz.func98 (by kernel_rfl) rfl) Tryz.ntmps98 rfl rfl ?_
  refine WP.seq <| WP.region <| v0 (S0.assign rfl) rfl <| vE <| WP.seq <| WP.seq <| WP.region <| v0 (S0.move rfl) rfl <| v0 (S0.lenSt rfl) rfl <| v0 (S0.cmp rfl rfl rfl) rfl <| vE <| ?_
  first | refine WP.condP rfl (fun h1 => ?_) (fun h1 => ?_) | refine WP.condN rfl (fun h1 => ?_) (fun h1 => ?_) | refine WP.cond rfl (fun h1 => ?_) (fun h1 => ?_)
  · have e : appendLg G D s = (2, G, D) := by unfold appendLg; rw [if_pos (by omega)]
    refine WP.seq <| WP.region <| v0 (S0.assign rfl) rfl <| vE <| WP.ret <| ?_
    refine r1 rfl rfl ?_
    rw [e]; exact ⟨_, dc, h0, hd, rfl, rfl⟩
  · have e : appendLg G D s = if (appendK D 1 (rowB G.rd s)).1 ≠ 0 then ((appendK D 1 (rowB G.rd s)).1, G, D) else (0, { G with l := G.l ++ [s] }, (appendK D 1 (rowB G.rd s)).2) := by unfold appendLg; rw [if_neg (by omega)]
    refine WP.skip <| WP.seq <| WP.seq <| WP.drawP [(0, none), (1, none), (2, none), (3, none), (4, none), (5, none), (6, none), (7, none), (8, none), (9, none), (10, none), (11, none)] mixed (by kernel_rfl) (by kernel_rfl) (by kernel_rfl) (take1 at0 take0) <| w0 rfl rfl rfl (S0.move rfl) rfl <| w0 rfl rfl rfl (S0.nilCheck rfl) rfl <| w0 rfl rfl rfl (S0.fieldAddr rfl) rfl <| w0 rfl rfl rfl (S0.load rfl rfl) rfl <| w0 rfl rfl rfl (S0.move rfl) rfl <| w0 rfl rfl rfl (S0.nilCheck rfl) rfl <| w0 rfl rfl rfl (S0.fieldAddr rfl) rfl <| w0 rfl rfl rfl (S0.load rfl rfl) rfl <| w0 rfl rfl rfl (S0.move rfl) rfl <| ?_
    refine wcd rfl rfl rfl rfl (S1.callF rfl (wrow_spec (rd := G.rd) (by omega) (s := s) (by omega)) take0) rfl ?_
    refine wc rfl rfl rfl rfl (S1.callF rfl (append_spec hd hk hW (f := 1) (by omega) (rowB G.rd s)) (take1 at0 take0)) rfl ?_
    rintro _ _ ⟨dc2, hd2, rfl, rfl⟩
    refine wapp ?_
    refine w0 rfl rfl rfl (S0.assign rfl) rfl <| wE <| WP.seq <| WP.region <| v0 (S0.move rfl) rfl <| v0 (S0.cmp rfl rfl rfl) rfl <| vE <| ?_
    first | refine WP.condP rfl (fun h2 => ?_) (fun h2 => ?_) | refine WP.condN rfl (fun h2 => ?_) (fun h2 => ?_) | refine WP.cond rfl (fun h2 => ?_) (fun h2 => ?_)
    · rw [if_pos h2] at e
      have e2 : (appendK D 1 (rowB G.rd s)).2 = D := by
        unfold appendK at h2 ⊢
        by_cases hc : 65536 < (D.now.get 1).length + (rowB G.rd s).length
        · rw [if_pos hc]
        · rw [if_neg hc] at h2; exact absurd rfl h2
      rw [e2] at hd2
      refine WP.seq <| WP.region <| v0 (S0.move rfl) rfl <| v0 (S0.assign rfl) rfl <| vE <| WP.ret <| ?_
      refine r1 rfl rfl ?_
      rw [e]; exact ⟨_, dc2, h0, hd2, rfl, rfl⟩
    · rw [if_neg (by simpa using h2)] at e
      have hsrc : (a = none ∧ G.l.length = 0 ∧ strs G.l = []) ∨ ∃ b l U fz, a = some ⟨b, 0, none⟩ ∧ (b, Obj.cells ⟨l⟩ U fz) ∈ row ∧ G.l.length ≤ l.length ∧ l.take G.l.length = strs G.l := by
        rcases hrow with ⟨e1, -, e2, -⟩ | ⟨b, sp, e1, e2, -⟩
        · exact .inl ⟨e2, by rw [e1]; rfl, by rw [e1]; rfl⟩
        · exact .inr ⟨b, strs G.l ++ sp, 9, (0, 0), e1, by rw [e2]; simp, by rw [List.length_append, strs_len]; omega, by rw [← strs_len G.l, List.take_left]⟩
      have ha : a = none ∨ ∃ b, a = some ⟨b, 0, none⟩ := hsrc.imp (·.1) fun ⟨b, _, _, _, e1, _⟩ => ⟨b, e1⟩
      refine WP.skip <| WP.seq <| WP.region <| v0 (S0.move rfl) rfl <| v0 (S0.nilCheck rfl) rfl <| v0 (S0.fieldAddr rfl) rfl <| v0 (S0.load rfl rfl) rfl <| v0 (S0.lenSl rfl) rfl <| v0 (S0.assign rfl) rfl <| vE <| WP.seq <| WP.region <| v0 (S0.move rfl) rfl <| v0 (S0.move rfl) rfl <| v0 (S0.nilCheck rfl) rfl <| v0 (S0.fieldAddr rfl) rfl <| v0 (S0.load rfl rfl) rfl <| v0 (S0.move rfl) rfl <| v0 (S0.move rfl) rfl <| ?_
      refine v0 (S0.slice3Z rfl ha rfl rfl (Nat.le_refl _) hcap) rfl <| ?_
      refine v0 (S0.move rfl) rfl <| vnv (S1.buildSlice rfl (qs := [(0, _)]) rfl rfl) rfl fun b38 => ?_
      refine ve (S1.appendOut rfl (hsrc.imp id fun ⟨b, l, U, fz, e1, hm, h3⟩ => ⟨b, l, U, fz, e1, by simp [hm], h3⟩) rfl rfl (by decide) rfl (by omega)) rfl ?_
      rintro v2 _ ⟨row2, hs2, rfl⟩
      refine v0 (S0.nilCheck rfl) rfl <| v0 (S0.fieldAddr rfl) rfl <| vs (S1.store rfl rfl (by first | rfl | exact IsSl.cv (by assumption))) <| vE <| WP.seq <| WP.region <| v0 (S0.assign rfl) rfl <| vE <| WP.ret <| ?_
      refine Leaves.drop (h' := [lgB lb db G.rd G.st v2 G.sure :: row2, dc2]) (k := [[(b38, .cells ⟨[sv s]⟩ 9 (0, 0))], row]) (pm fun a_ => by (try simp only [List.flatten_append, List.flatten_cons, List.flatten_nil, List.append_nil, List.cons_append, List.nil_append, List.append_assoc, nOf_app, nOf_cons, nOf_nil, Nat.add_zero, Nat.zero_add, List.map_append, List.map_cons, List.map_nil, cel, sv, lgB]); first | done | omega) ?_
      refine r1 rfl rfl ?_
      rw [e]; exact ⟨_, dc2, ⟨v2, row2, by simpa [strs] using hs2, rfl⟩, hd2, rfl, rfl⟩
theorem wcheck_spec {lb db : Nat} {G : Lg} {c : List Blk} (h : IsLog lb db G c) (ho : LgOk G) {D : Dk} {dc : List Blk} (hd : IsDisk db D dc) (hk : DkG D) (hW : D.W.length ≤ 900000) (s : Str) : FN Tryz.prog 96 [ptrB lb, sv s] [c, dc] (fun u h => ∃ c' dc', IsLog lb db (checkLg G D s).2.1 c' ∧ IsDisk db (checkLg G D s).2.2 dc' ∧ u = .int .i64 (checkLg G D s).1 ∧ h = [c', dc']) := by
  have h0 := h
  have hrd := ho.rd
  obtain ⟨v, row, hs, rfl⟩ := h
  obtain ⟨a, cap, rfl, hcap, hrow⟩ := hs.strsE
  refine FN.intro 42 [(0, ptrB lb), (1, sv s)] Tryz.func96 rfl (enters Tryz.func96 (by kernel_rfl) rfl) Tryz.ntmps96 rfl rfl ?_
  refine WP.seq <| WP.region <| v0 (S0.assign rfl) rfl <| vE <| WP.seq <| WP.seq <| WP.region <| v0 (S0.move rfl) rfl <| v0 (S0.lenSt rfl) rfl <| v0 (S0.cmp rfl rfl rfl) rfl <| vE <| ?_
  first | refine WP.condP rfl (fun h1 => ?_) (fun h1 => ?_) | refine WP.condN rfl (fun h1 => ?_) (fun h1 => ?_) | refine WP.cond rfl (fun h1 => ?_) (fun h1 => ?_)
  · have e : checkLg G D s = (2, G, D) := by unfold checkLg; rw [if_pos (by omega)]
    refine WP.seq <| WP.region <| v0 (S0.assign rfl) rfl <| vE <| WP.ret <| ?_
    refine r1 rfl rfl ?_
    rw [e]; exact ⟨_, dc, h0, hd, rfl, rfl⟩
  · have e : checkLg G D s = (0, ⟨G.rd + 1, s, [], 0⟩, (replaceK (replaceK D 0 (rowB (G.rd + 1) s)).2 1 []).2) := by unfold checkLg; rw [if_neg (by omega)]
    refine WP.perm (h' := [[lgB lb db G.rd G.st (.slice a G.l.length cap) G.sure], row, dc]) (k := []) (pm fun a_ => by (try simp only [List.flatten_append, List.flatten_cons, List.flatten_nil, List.append_nil, List.cons_append, List.nil_append, List.append_assoc, nOf_app, nOf_cons, nOf_nil, Nat.add_zero, Nat.zero_add, List.map_append, List.map_cons, List.map_nil, cel, sv]); first | done | omega) ?_
    refine WP.skip <| WP.seq <| WP.region <| v0 (S0.move rfl) rfl <| v0 (S0.move rfl) rfl <| v0 (S0.move rfl) rfl <| v0 (S0.move rfl) rfl <| v0 (S0.move rfl) rfl <| v0 (S0.nilCheck rfl) rfl <| v0 (S0.fieldAddr rfl) rfl <| v0 (S0.load rfl rfl) rfl <| v0 (S0.ari rfl rfl rfl (wrap_i64 (by omega))) rfl <| v0 (S0.move rfl) rfl <| v0 (S0.nilCheck rfl) rfl <| v0 (S0.fieldAddr rfl) rfl <| vs (S1.store rfl rfl (by first | rfl | exact IsSl.cv (by assumption))) <| v0 (S0.nilCheck rfl) rfl <| v0 (S0.fieldAddr rfl) rfl <| vs (S1.store rfl rfl (by first | rfl | exact IsSl.cv (by assumption))) <| v0 (S0.nilCheck rfl) rfl <| v0 (S0.fieldAddr rfl) rfl <| vs (S1.store rfl rfl (by first | rfl | exact IsSl.cv (by assumption))) <| v0 (S0.nilCheck rfl) rfl <| v0 (S0.fieldAddr rfl) rfl <| vs (S1.store rfl rfl (by first | rfl | exact IsSl.cv (by assumption))) <| vE <| ?_
    refine WP.seq <| WP.drawP [(0, none), (1, none), (2, none), (3, none), (4, none), (5, none), (6, none), (7, none), (8, none), (9, none), (10, none)] mixed (by kernel_rfl) (by kernel_rfl) (by kernel_rfl) (take1 at0 take0) <| w0 rfl rfl rfl (S0.move rfl) rfl <| w0 rfl rfl rfl (S0.nilCheck rfl) rfl <| w0 rfl rfl rfl (S0.fieldAddr rfl) rfl <| w0 rfl rfl rfl (S0.load rfl rfl) rfl <| w0 rfl rfl rfl (S0.move rfl) rfl <| w0 rfl rfl rfl (S0.nilCheck rfl) rfl <| w0 rfl rfl rfl (S0.fieldAddr rfl) rfl <| w0 rfl rfl rfl (S0.load rfl rfl) rfl <| w0 rfl rfl rfl (S0.move rfl) rfl <| ?_
    rw [show (G.rd : Int) + 1 = ((G.rd + 1 : Nat) : Int) by omega]
    refine wcd rfl rfl rfl rfl (S1.callF rfl (wrow_spec (rd := G.rd + 1) (by omega) (s := s) (by omega)) take0) rfl ?_
    have hw1 := replace_W D 0 (rowB (G.rd + 1) s)
    refine wc rfl rfl rfl rfl (S1.callF rfl (replace_spec hd hk.ok (by omega) (f := 0) (by omega) (rowB (G.rd + 1) s)) (take1 (atS at0) take0)) rfl ?_
    rintro _ _ ⟨dc2, hd2, rfl, rfl⟩
    refine wapp ?_
    refine wE <| WP.seq <| WP.region <| v0 (S0.move rfl) rfl <| v0 (S0.nilCheck rfl) rfl <| v0 (S0.fieldAddr rfl) rfl <| v0 (S0.load rfl rfl) rfl <| ?_
    refine vc (S1.callF rfl (replace_spec hd2 (hk.replace (by omega) _).ok (by omega) (f := 1) (by omega) []) (take1 (atS at0) take0)) rfl ?_
    rintro _ _ ⟨dc3, hd3, rfl, rfl⟩
    refine app ?_
    refine vE <| WP.seq <| WP.region <| v0 (S0.assign rfl) rfl <| vE <| WP.ret <| ?_
    refine Leaves.drop (take1 (atS at0) (take1 at0 take0)) ?_
    refine r1 rfl rfl ?_
    rw [e]; exact ⟨_, dc3, ⟨.slice none 0 0, [], IsSl.nil, rfl⟩, hd3, rfl, rfl⟩
theorem wopen_spec {db : Nat} {D : Dk} {dc : List Blk} (hd : IsDisk db D dc) (hk : DkG D) (hW : D.W.length ≤ 900000) : FN Tryz.prog 36 [ptrB db] [dc] (fun u h => ((openLg D).1 ≠ 0 ∧ u = .tuple ⟨[.pointer none, .int .i64 (openLg D).1]⟩ ∧ h = [dc]) ∨
    ((openLg D).1 = 0 ∧ ∃ lb lc dc', IsLog lb db (openLg D).2.1 lc ∧ IsDisk db (openLg D).2.2 dc' ∧ u = .tuple ⟨[ptrB lb, .int .i64 0]⟩ ∧ h = [lc, dc'])) := by
  have hn0 := hk.ok.now 0
  have hn1 := hk.ok.now 1
  obtain ⟨hrd, hst⟩ := head_le hn0
  obtain ⟨hal, han⟩ := allB_le (D.now.get 1)
  have ho : openLg D = if (headB (D.now.get 0)).2.2 ≠ 0 then ((headB (D.now.get 0)).2.2, ⟨0, [], [], 0⟩, D) else (0, ⟨(headB (D.now.get 0)).1, (headB (D.now.get 0)).2.1, recsB (headB (D.now.get 0)).1 (allB (D.now.get 1)), (recsB (headB (D.now.get 0)).1 (allB (D.now.get 1))).length⟩, syncK (if textL (headB (D.now.get 0)).1 (recsB (headB (D.now.get 0)).1 (allB (D.now.get 1))) ≠ D.now.get 1 then (replaceK D 1 (textL (headB (D.now.get 0)).1 (recsB (headB (D.now.get 0)).1 (allB (D.now.get 1))))).2 else D)) := rfl
  refine FN.intro 74 [(0, ptrB db)] Tryz.func36 rfl (enters Tryz.func36 (by kernel_rfl) rfl) Tryz.ntmps36 rfl rfl ?_
  refine WP.seq <| WP.region <| v0 (S0.assign rfl) rfl <| v0 (S0.assign rfl) rfl <| vE <| WP.seq <| WP.region <| v0 (S0.move rfl) rfl <| ?_
  refine vcd (S1.callF rfl (dread_spec hd (f := 0) (by omega)) (take1 at0 take0)) rfl ?_
  refine vcd (S1.callF rfl (whead_spec hn0) take0) rfl ?_
  generalize (headB (D.now.get 0)).1 = rd at hrd ho
  generalize (headB (D.now.get 0)).2.1 = st at hst ho
  generalize (headB (D.now.get 0)).2.2 = er at ho
  refine v0 (S0.move rfl) rfl <| v0 (S0.extract rfl rfl) rfl <| v0 (S0.extract rfl rfl) rfl <| v0 (S0.extract rfl rfl) rfl <| v0 (S0.assign rfl) rfl <| v0 (S0.assign rfl) rfl <| v0 (S0.assign rfl) rfl <| vE <| WP.seq <| WP.seq <| WP.region <| v0 (S0.move rfl) rfl <| v0 (S0.cmp rfl rfl rfl) rfl <| vE <| ?_
  first | refine WP.condP rfl (fun h1 => ?_) (fun h1 => ?_) | refine WP.condN rfl (fun h1 => ?_) (fun h1 => ?_) | refine WP.cond rfl (fun h1 => ?_) (fun h1 => ?_)
  · rw [if_pos h1] at ho
    refine WP.seq <| WP.region <| v0 (S0.move rfl) rfl <| v0 (S0.assign rfl) rfl <| v0 (S0.assign rfl) rfl <| vE <| WP.ret <| ?_
    refine r2 rfl rfl rfl ?_
    rw [ho]; exact .inl ⟨h1, rfl, rfl⟩
  · have h1' : er = 0 := by simpa using h1
    subst h1'
    rw [if_neg (by simp)] at ho
    refine WP.skip <| WP.seq <| WP.region <| v0 (S0.move rfl) rfl <| v0 (S0.move rfl) rfl <| v0 (S0.move rfl) rfl <| v0 (S0.build rfl (qs := [(0, _), (1, _), (2, _)]) rfl) rfl <| vn (S1.box rfl rfl) rfl fun b28 => v0 (S0.assign rfl) rfl <| vE <| WP.seq <| WP.region <| v0 (S0.move rfl) rfl <| ?_
    refine vcd (S1.callF rfl (dread_spec hd (f := 1) (by omega)) (take1 (atS at0) take0)) rfl ?_
    refine vc (S1.callF rfl (alls_spec (s := D.now.get 1) (by omega)) take0) rfl ?_
    rintro _ _ ⟨v, row, rfl, hsL, rfl⟩
    refine app ?_
    generalize hL : allB (D.now.get 1) = L at hsL hal han ho
    obtain ⟨va, cap, rfl, hcap, -⟩ := hsL.strsE
    obtain ⟨hrl, hrn⟩ := recs_le rd L hal
    refine v0 (S0.move rfl) rfl <| v0 (S0.extract rfl rfl) rfl <| v0 (S0.extract rfl rfl) rfl <| v0 (S0.assign rfl) rfl <| v0 (S0.assign rfl) rfl <| vE <| WP.seq <| WP.region <| v0 (S0.move rfl) rfl <| v0 (S0.move rfl) rfl <| ?_
    refine vc (S1.callF rfl (wreader_spec) take0) rfl ?_
    rintro _ _ ⟨ba, bl, br, rfl, rfl⟩
    refine app ?_
    refine v0 (S0.assign rfl) rfl <| vE <| WP.seq <| WP.region <| v0 (S0.assign rfl) rfl <| vE <| WP.seq <| WP.seq <| WP.region <| v0 (S0.move rfl) rfl <| ?_
    refine vc (S1.callC rfl rfl rfl (wnext_spec (a := 0) (by omega) hsL hal (by omega) (Nat.zero_le _)) (take1 at0 (take1 at0 take0))) rfl ?_
    rintro _ _ ⟨x0, b0, a0, hN0, rfl, rfl⟩
    refine app ?_
    refine v0 (S0.move rfl) rfl <| v0 (S0.extract rfl rfl) rfl <| v0 (S0.extract rfl rfl) rfl <| v0 (S0.assign rfl) rfl <| v0 (S0.assign rfl) rfl <| vE <| WP.block <| ?_
    refine WP.loop (fun q : List Str × Nat × Str × Bool × Nat × Value × List Blk => recsB rd L = q.1 ++ recsB rd (L.drop q.2.1) ∧ NextR rd L q.2.1 q.2.2.1 q.2.2.2.1 q.2.2.2.2.1 ∧ IsSl 9 1 q.2.2.2.2.2.1 (strs q.1) q.2.2.2.2.2.2) (fun q : List Str × Nat × Str × Bool × Nat × Value × List Blk => [(0, ptrB db), (4, .int .i64 (rd : Int)), (7, ptrB b28), (10, .func (.func 120) ⟨[]⟩ ⟨[ptrB ba, ptrB bl, ptrB br]⟩), (11, sv (textL rd q.1)), (12, sv q.2.2.1), (13, .bool q.2.2.2.1)]) (fun q : List Str × Nat × Str × Bool × Nat × Value × List Blk => [rdrC ba bl br (.slice va L.length cap) q.2.2.2.2.1 rd, row, [lgB b28 db rd st q.2.2.2.2.2.1 0], q.2.2.2.2.2.2, dc]) (fun q : List Str × Nat × Str × Bool × Nat × Value × List Blk => L.length - q.2.2.2.2.1 + (if q.2.2.2.1 = true then 1 else 0)) (([], 0, x0, b0, a0, .slice none 0 0, [])) (⟨rfl, hN0, IsSl.nil⟩) ⟨rfl, rfl, rfl, rfl, rfl, rfl, rfl, trivial⟩ ⟨[], (pm fun a_ => by (try simp only [List.flatten_append, List.flatten_cons, List.flatten_nil, List.append_nil, List.cons_append, List.nil_append, List.append_assoc, nOf_app, nOf_cons, nOf_nil, Nat.add_zero, Nat.zero_add, List.map_append, List.map_cons, List.map_nil, cel, sv, lgB, ptrB]); first | done | omega)⟩ (fun q hinv => ?_)
    obtain ⟨A, a, x, b, a', v, vrow⟩ := q
    obtain ⟨hrec, hN, hsA⟩ := hinv
    dsimp only at hrec hN hsA ⊢
    have hAl : ∀ y ∈ A, y.length ≤ 65536 := fun y hy => hrl y (by rw [hrec]; simp [hy])
    have hAn : A.length ≤ 65536 := by have := congrArg List.length hrec; rw [List.length_append] at this; omega
    refine WP.seq <| WP.seq <| WP.region <| v0 (S0.move rfl) rfl <| vE <| ?_
    cases b with
    | true =>
      obtain ⟨hlt, hr2⟩ := hN.t rfl
      have hxm : x ∈ recsB rd L := by rw [hrec, hr2]; simp
      have hxl := hrl x hxm
      have hrec2 : recsB rd L = (A ++ [x]) ++ recsB rd (L.drop a') := by rw [hrec, hr2]; simp
      have htl := textL_le rd A hAl
      have hrb := rowB_le rd (s := x)
      have htx : textL rd A ++ rowB rd x = textL rd (A ++ [x]) := by rw [textL_app]; simp [textL]
      refine WP.condTh rfl (rfl) ?_
      refine WP.skip <| WP.seq <| WP.block <| WP.seq <| WP.region <| v0 (S0.move rfl) rfl <| v0 (S0.move rfl) rfl <| v0 (S0.nilCheck rfl) rfl <| v0 (S0.fieldAddr rfl) rfl <| v0 (S0.load rfl rfl) rfl <| v0 (S0.move rfl) rfl <| vnv (S1.buildSlice rfl (qs := [(0, _)]) rfl rfl) rfl fun b55 => ?_
      refine ve (S1.appendL rfl hsA rfl rfl (atS (atS (atS (atS at0)))) rfl rfl (by rw [strs_len]; simp; omega)) rfl ?_
      rintro v2 _ ⟨vrow2, hsA2, rfl⟩
      refine v0 (S0.nilCheck rfl) rfl <| v0 (S0.fieldAddr rfl) rfl <| vs (S1.store rfl rfl (by first | rfl | exact IsSl.cv (by assumption))) <| vE <| WP.region <| v0 (S0.move rfl) rfl <| v0 (S0.move rfl) rfl <| v0 (S0.move rfl) rfl <| ?_
      refine vcd (S1.callF rfl (wrow_spec (rd := rd) (by omega) (s := x) (by omega)) take0) rfl ?_
      refine v0 (S0.addS rfl rfl (by omega)) rfl <| ?_
      rw [htx]
      refine v0 (S0.assign rfl) rfl <| vE <| WP.region <| v0 (S0.move rfl) rfl <| ?_
      refine vc (S1.callC rfl rfl rfl (wnext_spec (a := a') (by omega) hsL hal (by omega) hN.le.2) (take1 (atS (atS at0)) (take1 (atS (atS at0)) take0))) rfl ?_
      rintro _ _ ⟨x2, b2, a2, hN2, rfl, rfl⟩
      refine app ?_
      have hle2 := hN2.le
      have hme : L.length - a2 + (if b2 = true then 1 else 0) < L.length - a' + (if true = true then 1 else 0) := by
        cases b2 with
        | true => have := (hN2.t rfl).1; simp; omega
        | false => simp; omega
      refine v0 (S0.move rfl) rfl <| v0 (S0.extract rfl rfl) rfl <| v0 (S0.extract rfl rfl) rfl <| v0 (S0.assign rfl) rfl <| v0 (S0.assign rfl) rfl <| vE <| ?_
      exact ⟨(A ++ [x], a', x2, b2, a2, v2, vrow2), (by first | exact ⟨hrec2, hN2, by simpa [strs] using hsA2⟩ | (dsimp only; exact ⟨hrec2, hN2, by simpa [strs] using hsA2⟩)), hme, ⟨⟨rfl, rfl, rfl, rfl, rfl, rfl, rfl, trivial⟩, rfl, rfl⟩, ⟨_, (take1 at0 (take1 at0 (take1 (atS (atS at0)) (take1 at0 (take1 (atS at0) take0)))))⟩⟩
    | false =>
      have hr0 := hN.f rfl
      rw [hr0, List.append_nil] at hrec
      rw [hrec] at ho
      have htl := textL_le rd A hAl
      refine WP.condFh rfl (rfl) ?_
      refine WP.exit <| WP.seq <| WP.seq <| WP.region <| v0 (S0.move rfl) rfl <| v0 (S0.move rfl) rfl <| ?_
      refine vcd (S1.callF rfl (dread_spec hd (f := 1) (by omega)) (take1 (atS (atS (atS (atS at0)))) take0)) rfl ?_
      refine v0 (S0.cmpS rfl rfl rfl) rfl <| vE <| ?_
      first | refine WP.condP rfl (fun h2 => ?_) (fun h2 => ?_) | refine WP.condN rfl (fun h2 => ?_) (fun h2 => ?_) | refine WP.cond rfl (fun h2 => ?_) (fun h2 => ?_)
      · rw [if_pos h2] at ho
        refine WP.region <| v0 (S0.move rfl) rfl <| v0 (S0.move rfl) rfl <| ?_
        refine vc (S1.callF rfl (replace_spec hd hk.ok (by omega) (f := 1) (by omega) (textL rd A)) (take1 at0 take0)) rfl ?_
        rintro _ _ ⟨dc2, hd2, rfl, rfl⟩
        refine app ?_
        refine vE <| WP.seq <| WP.region <| v0 (S0.move rfl) rfl <| ?_
        refine WO.perm (h' := [lgB b28 db rd st v 0 :: vrow, dc2]) (k := [rdrC ba bl br (.slice va L.length cap) a' rd, row]) (pm fun a_ => by (try simp only [List.flatten_append, List.flatten_cons, List.flatten_nil, List.append_nil, List.cons_append, List.nil_append, List.append_assoc, nOf_app, nOf_cons, nOf_nil, Nat.add_zero, Nat.zero_add, List.map_append, List.map_cons, List.map_nil, cel, sv]); first | done | omega) ?_
        refine vc (S1.callF rfl (wsync_spec (lb := b28) (G := ⟨rd, st, A, 0⟩) ⟨v, vrow, hsA, rfl⟩ hd2) (take1 at0 (take1 at0 take0))) rfl ?_
        rintro _ _ ⟨lc3, dc3, hl3, hd3, rfl⟩
        refine app ?_
        refine vE <| WP.seq <| WP.region <| v0 (S0.move rfl) rfl <| v0 (S0.assign rfl) rfl <| v0 (S0.assign rfl) rfl <| vE <| WP.ret <| ?_
        refine r2 rfl rfl rfl ?_
        rw [ho]; exact .inr ⟨rfl, b28, lc3, dc3, hl3, hd3, rfl, rfl⟩
      · rw [if_neg (by simpa using h2)] at ho
        refine WP.skip <| WP.seq <| WP.region <| v0 (S0.move rfl) rfl <| ?_
        refine WO.perm (h' := [lgB b28 db rd st v 0 :: vrow, dc]) (k := [rdrC ba bl br (.slice va L.length cap) a' rd, row]) (pm fun a_ => by (try simp only [List.flatten_append, List.flatten_cons, List.flatten_nil, List.append_nil, List.cons_append, List.nil_append, List.append_assoc, nOf_app, nOf_cons, nOf_nil, Nat.add_zero, Nat.zero_add, List.map_append, List.map_cons, List.map_nil, cel, sv]); first | done | omega) ?_
        refine vc (S1.callF rfl (wsync_spec (lb := b28) (G := ⟨rd, st, A, 0⟩) ⟨v, vrow, hsA, rfl⟩ hd) (take1 at0 (take1 at0 take0))) rfl ?_
        rintro _ _ ⟨lc3, dc3, hl3, hd3, rfl⟩
        refine app ?_
        refine vE <| WP.seq <| WP.region <| v0 (S0.move rfl) rfl <| v0 (S0.assign rfl) rfl <| v0 (S0.assign rfl) rfl <| vE <| WP.ret <| ?_
        refine r2 rfl rfl rfl ?_
        rw [ho]; exact .inr ⟨rfl, b28, lc3, dc3, hl3, hd3, rfl, rfl⟩
end Go.Proofs.YtjpjebfodhbdfaaGreatDoor
namespace Go.Proofs.YtjpjebfodhbdfaaGreatDoor
open Go
abbrev rlB (lb rb : Nat) (rd : Nat) (st : Str) (v : Value) (sure : Int) : Blk := (lb, .cells ⟨[ptrB rb, .int .i64 (rd : Int), sv st, v, .int .i64 sure]⟩ 86 (0, 0))
def IsRLog (lb rb : Nat) (G : Lg) (c : List Blk) : Prop := ∃ v row, IsSl 9 1 v (strs G.l) row ∧ c = rlB lb rb G.rd G.st v G.sure :: row
theorem xrow_spec {rd : Nat} (hr : rd < 4611686018427387904) {s : Str} (hs : s.length ≤ 800000) : FN Tryz.prog 72 [.int .i64 (rd : Int), sv s] [] (is (sv (rowB rd s)) []) := by
  have h1 := putV_le rd
  refine FN.intro 11 [(0, .int .i64 (rd : Int)), (1, sv s)] Tryz.func72 rfl (enters Tryz.func72 (by kernel_rfl) rfl) Tryz.ntmps72 rfl rfl ?_
  refine WP.seq <| WP.region <| v0 (S0.assign rfl) rfl <| vE <| WP.seq <| WP.region <| v0 (S0.move rfl) rfl <| v0 (S0.convI rfl (wrap_u64 (by omega))) rfl <| ?_
  refine vcd (S1.callF rfl (rput_spec (n := rd) (by omega)) take0) rfl ?_
  refine v0 (S0.move rfl) rfl <| ?_
  refine v0 (S0.addS rfl rfl (by omega)) rfl <| ?_
  refine vcd (S1.callF rfl (rseal_spec (s := putV rd ++ s) (by rw [List.length_append]; omega)) take0) rfl ?_
  refine v0 (S0.assign rfl) rfl <| vE <| WP.ret <| ?_
  refine r1 rfl rfl ⟨?_, rfl⟩
  rfl
theorem xhead_spec {s : Str} (hs : s.length ≤ 65536) : FN Tryz.prog 87 [sv s] [] (is (.tuple ⟨[.int .i64 ((headB s).1 : Int), sv (headB s).2.1, .int .i64 (headB s).2.2]⟩) []) := by
  refine FN.intro 42 [(0, sv s)] Tryz.func87 rfl (enters Tryz.func87 (by kernel_rfl) rfl) Tryz.ntmps87 rfl rfl ?_
  refine WP.seq <| WP.region <| v0 (S0.assign rfl) rfl <| v0 (S0.assign rfl) rfl <| v0 (S0.assign rfl) rfl <| vE <| WP.seq <| WP.seq <| WP.region <| v0 (S0.move rfl) rfl <| v0 (S0.cmpS rfl rfl rfl) rfl <| vE <| ?_
  first | refine WP.condP rfl (fun h1 => ?_) (fun h1 => ?_) | refine WP.condN rfl (fun h1 => ?_) (fun h1 => ?_) | refine WP.cond rfl (fun h1 => ?_) (fun h1 => ?_)
  · refine WP.seq <| WP.region <| v0 (S0.assign rfl) rfl <| v0 (S0.assign rfl) rfl <| v0 (S0.assign rfl) rfl <| vE <| WP.ret <| ?_
    refine r3 rfl rfl rfl rfl ⟨?_, rfl⟩
    unfold headB; rw [if_pos h1]; rfl
  · have h1' : ¬ s = [] := by simpa using h1
    have hh : headB s = if (openB s 0).2.2 ≠ 0 then (0, [], (openB s 0).2.2) else if (openB s 0).2.1 ≠ (s.length : Int) then (0, [], 4) else partB (openB s 0).1 := by unfold headB; rw [if_neg h1']
    refine WP.skip <| WP.seq <| WP.region <| v0 (S0.move rfl) rfl <| ?_
    refine vcd (S1.callF rfl (ropens_spec (s := s) (a := 0) (by omega) (by omega)) take0) rfl ?_
    refine v0 (S0.move rfl) rfl <| v0 (S0.extract rfl rfl) rfl <| v0 (S0.extract rfl rfl) rfl <| v0 (S0.extract rfl rfl) rfl <| v0 (S0.assign rfl) rfl <| v0 (S0.assign rfl) rfl <| v0 (S0.assign rfl) rfl <| vE <| WP.seq <| WP.seq <| WP.region <| v0 (S0.move rfl) rfl <| v0 (S0.cmp rfl rfl rfl) rfl <| vE <| ?_
    first | refine WP.condP rfl (fun h2 => ?_) (fun h2 => ?_) | refine WP.condN rfl (fun h2 => ?_) (fun h2 => ?_) | refine WP.cond rfl (fun h2 => ?_) (fun h2 => ?_)
    · refine WP.seq <| WP.region <| v0 (S0.move rfl) rfl <| v0 (S0.assign rfl) rfl <| v0 (S0.assign rfl) rfl <| v0 (S0.assign rfl) rfl <| vE <| WP.ret <| ?_
      refine r3 rfl rfl rfl rfl ⟨?_, rfl⟩
      rw [hh, if_pos h2]; rfl
    · have h2' : ¬ (openB s 0).2.2 ≠ 0 := by simpa using h2
      obtain ⟨x, b, ho, -, hb, -, hx⟩ := openB_ok (Decidable.not_not.1 h2')
      rw [if_neg h2', ho] at hh
      dsimp only at hh
      rw [ho]
      refine WP.skip <| WP.seq <| WP.seq <| WP.region <| v0 (S0.move rfl) rfl <| v0 (S0.move rfl) rfl <| v0 (S0.lenSt rfl) rfl <| v0 (S0.cmp rfl rfl rfl) rfl <| vE <| ?_
      first | refine WP.condP rfl (fun h3 => ?_) (fun h3 => ?_) | refine WP.condN rfl (fun h3 => ?_) (fun h3 => ?_) | refine WP.cond rfl (fun h3 => ?_) (fun h3 => ?_)
      · dsimp only at h3
        refine WP.seq <| WP.region <| v0 (S0.assign rfl) rfl <| v0 (S0.assign rfl) rfl <| v0 (S0.assign rfl) rfl <| vE <| WP.ret <| ?_
        refine r3 rfl rfl rfl rfl ⟨?_, rfl⟩
        rw [hh, if_pos (by omega)]; rfl
      · dsimp only at h3
        rw [if_neg (by omega)] at hh
        refine WP.skip <| WP.seq <| WP.region <| v0 (S0.move rfl) rfl <| ?_
        refine vcd (S1.callF rfl (rget_spec (s := x) (a := 0) (by omega) (by omega)) take0) rfl ?_
        refine v0 (S0.move rfl) rfl <| v0 (S0.extract rfl rfl) rfl <| v0 (S0.extract rfl rfl) rfl <| v0 (S0.extract rfl rfl) rfl <| v0 (S0.assign rfl) rfl <| v0 (S0.assign rfl) rfl <| v0 (S0.assign rfl) rfl <| vE <| WP.seq <| WP.seq <| WP.region <| v0 (S0.move rfl) rfl <| v0 (S0.cmp rfl rfl rfl) rfl <| vE <| ?_
        first | refine WP.condP rfl (fun h4 => ?_) (fun h4 => ?_) | refine WP.condN rfl (fun h4 => ?_) (fun h4 => ?_) | refine WP.cond rfl (fun h4 => ?_) (fun h4 => ?_)
        · refine WP.seq <| WP.region <| v0 (S0.move rfl) rfl <| v0 (S0.assign rfl) rfl <| v0 (S0.assign rfl) rfl <| v0 (S0.assign rfl) rfl <| vE <| WP.ret <| ?_
          refine r3 rfl rfl rfl rfl ⟨?_, rfl⟩
          rw [hh]; unfold partB; rw [if_pos h4]; rfl
        · have h4' : ¬ (getV x 0).2.2 ≠ 0 := by simpa using h4
          obtain ⟨n, k, hg, hn, hk, hak, -⟩ := getV_ok (Decidable.not_not.1 h4')
          have q1 : (getV x 0).1 = (n : Int) := by rw [hg]
          have q2 : (getV x 0).2.1 = (k : Int) := by rw [hg]; simp
          have hp : partB x = if 1099511627776 < (n : Int) then (0, [], 4) else (n, x.drop k, 0) := by unfold partB; rw [if_neg h4', q1, q2, Int.toNat_natCast, Int.toNat_natCast]
          rw [q1, q2]
          refine WP.skip <| WP.seq <| WP.seq <| WP.region <| v0 (S0.move rfl) rfl <| v0 (S0.cmp rfl rfl rfl) rfl <| vE <| ?_
          first | refine WP.condP rfl (fun h5 => ?_) (fun h5 => ?_) | refine WP.condN rfl (fun h5 => ?_) (fun h5 => ?_) | refine WP.cond rfl (fun h5 => ?_) (fun h5 => ?_)
          · refine WP.seq <| WP.region <| v0 (S0.assign rfl) rfl <| v0 (S0.assign rfl) rfl <| v0 (S0.assign rfl) rfl <| vE <| WP.ret <| ?_
            refine r3 rfl rfl rfl rfl ⟨?_, rfl⟩
            rw [hh, hp, if_pos (by omega)]; rfl
          · refine WP.skip <| WP.seq <| WP.drawP [(0, none), (1, none), (2, none), (3, none), (4, none), (5, none), (6, none), (7, none)] mixed (by kernel_rfl) (by kernel_rfl) (by kernel_rfl) take0 <| w0 rfl rfl rfl (S0.move rfl) rfl <| w0 rfl rfl rfl (S0.convI rfl (wrap_i64 (by omega))) rfl <| w0 rfl rfl rfl (S0.move rfl) rfl <| w0 rfl rfl rfl (S0.move rfl) rfl <| ?_
            refine w0 rfl rfl rfl (S0.sliceSt (i := k) (j := x.length) rfl rfl rfl ⟨by omega, Nat.le_refl _⟩) rfl <| ?_
            rw [show (x.drop k).take (x.length - k) = x.drop k from List.take_of_length_le (by rw [List.length_drop]; exact Nat.le_refl _)]
            refine w0 rfl rfl rfl (S0.assign rfl) rfl <| w0 rfl rfl rfl (S0.assign rfl) rfl <| w0 rfl rfl rfl (S0.assign rfl) rfl <| wE <| WP.ret <| ?_
            refine r3 rfl rfl rfl rfl ⟨?_, rfl⟩
            rw [hh, hp, if_neg (by omega)]
theorem xrecords_spec {s : Str} (hs : s.length ≤ 65536) {rd : Nat} (hr : rd < 4611686018427387904) : FN Tryz.prog 88 [sv s, .int .i64 (rd : Int)] [] (fun u h => ∃ row, IsSl 9 1 u (strs (recsB rd (allB s))) row ∧ h = [row]) := by
  obtain ⟨hal, han⟩ := allB_le s
  refine FN.intro 50 [(0, sv s), (1, .int .i64 (rd : Int))] Tryz.func88 rfl (enters Tryz.func88 (by kernel_rfl) rfl) Tryz.ntmps88 rfl rfl ?_
  refine WP.seq <| WP.region <| v0 (S0.assign rfl) rfl <| vE <| WP.seq <| WP.region <| vnv (S1.buildSlice rfl (qs := []) rfl rfl) rfl fun b12 => v0 (S0.assign rfl) rfl <| vE <| WP.seq <| WP.region <| v0 (S0.move rfl) rfl <| ?_
  refine vc (S1.callF rfl (ralls_spec (s := s) (by omega)) take0) rfl ?_
  rintro _ _ ⟨v, lrow, rfl, hsL, rfl⟩
  refine app ?_
  generalize allB s = L at hsL hal han
  obtain ⟨va, cap, rfl, hcap, hlrow⟩ := hsL.strsE
  refine v0 (S0.move rfl) rfl <| v0 (S0.extract rfl rfl) rfl <| v0 (S0.extract rfl rfl) rfl <| v0 (S0.assign rfl) rfl <| v0 (S0.assign rfl) rfl <| vE <| WP.seq <| WP.seq <| WP.region <| v0 (S0.assign rfl) rfl <| vE <| WP.block <| ?_
  refine WP.loop (fun q : Nat × List Str × Value × List Blk => q.1 ≤ L.length ∧ recsB rd L = q.2.1 ++ recsB rd (L.drop q.1) ∧ q.2.1.length ≤ q.1 ∧ IsSl 9 1 q.2.2.1 (strs q.2.1) q.2.2.2) (fun q : Nat × List Str × Value × List Blk => [(1, .int .i64 (rd : Int)), (5, q.2.2.1), (6, .slice va L.length cap), (8, .int .i64 (q.1 : Int))]) (fun q : Nat × List Str × Value × List Blk => [lrow, q.2.2.2]) (fun q : Nat × List Str × Value × List Blk => L.length - q.1) ((0, [], .slice (some ⟨b12, 0, none⟩) 0 0, [(b12, .cells ⟨[]⟩ 9 (0, 0))])) (⟨Nat.zero_le _, rfl, Nat.le_refl _, IsSl.row (n := 0) (c := 0) (l := []) (sp := []) rfl rfl (Nat.le_refl _)⟩) ⟨rfl, rfl, rfl, rfl, trivial⟩ ⟨_, (take1 at0 (take1 at0 take0))⟩ (fun q hinv => ?_)
  obtain ⟨i, A, v, row⟩ := q
  obtain ⟨hi, hrec, hA, hsA⟩ := hinv
  dsimp only at hi hrec hA hsA ⊢
  refine WP.seq <| WP.seq <| WP.region <| v0 (S0.move rfl) rfl <| v0 (S0.move rfl) rfl <| v0 (S0.lenSl rfl) rfl <| v0 (S0.cmp rfl rfl rfl) rfl <| vE <| ?_
  first | refine WP.condP rfl (fun h1 => ?_) (fun h1 => ?_) | refine WP.condN rfl (fun h1 => ?_) (fun h1 => ?_) | refine WP.cond rfl (fun h1 => ?_) (fun h1 => ?_)
  · have hlt : i < L.length := by omega
    rcases hlrow with ⟨rfl, -⟩ | ⟨b1, sp1, rfl, rfl, hsp1⟩
    · simp at hlt
    have hx : L[i]? = some L[i] := by simp [hlt]
    have hxl := hal _ (List.getElem_mem hlt)
    have hdr : L.drop i = L[i] :: L.drop (i + 1) := List.drop_eq_getElem_cons hlt
    generalize L[i] = x at hx hxl hdr
    rw [hdr, recsB] at hrec
    refine WP.skip <| WP.seq <| WP.block <| WP.seq <| WP.region <| v0 (S0.move rfl) rfl <| v0 (S0.move rfl) rfl <| ?_
    refine v0 (S0.index1 rfl rfl hlt) rfl <| ?_
    refine v0 (S0.load rfl (strs_get hx)) rfl <| ?_
    refine vcd (S1.callF rfl (rget_spec (s := x) (a := 0) (by omega) (by omega)) take0) rfl ?_
    refine v0 (S0.move rfl) rfl <| v0 (S0.extract rfl rfl) rfl <| v0 (S0.extract rfl rfl) rfl <| v0 (S0.extract rfl rfl) rfl <| v0 (S0.assign rfl) rfl <| v0 (S0.assign rfl) rfl <| v0 (S0.assign rfl) rfl <| vE <| WP.seq <| WP.seq <| WP.region <| v0 (S0.move rfl) rfl <| v0 (S0.cmp rfl rfl rfl) rfl <| vE <| ?_
    first | refine WP.condP rfl (fun h2 => ?_) (fun h2 => ?_) | refine WP.condN rfl (fun h2 => ?_) (fun h2 => ?_) | refine WP.cond rfl (fun h2 => ?_) (fun h2 => ?_)
    · rw [if_pos h2, List.append_nil] at hrec
      refine WP.seq <| WP.region <| v0 (S0.move rfl) rfl <| v0 (S0.assign rfl) rfl <| vE <| WP.ret <| ?_
      refine Leaves.drop (take1 (atS at0) take0) ?_
      refine r1 rfl rfl ?_
      exact ⟨row, by rw [hrec]; exact hsA, rfl⟩
    · have h2' : ¬ (getV x 0).2.2 ≠ 0 := by simpa using h2
      rw [if_neg h2'] at hrec
      obtain ⟨n, k, hg, hn, hk, hak, -⟩ := getV_ok (Decidable.not_not.1 h2')
      have q1 : (getV x 0).1 = (n : Int) := by rw [hg]
      have q2 : (getV x 0).2.1 = (k : Int) := by rw [hg]; simp
      rw [q1, q2, Int.toNat_natCast] at hrec
      rw [q1, q2]
      refine WP.skip <| WP.seq <| WP.region <| v0 (S0.move rfl) rfl <| v0 (S0.move rfl) rfl <| v0 (S0.convI rfl (wrap_u64 (by omega))) rfl <| v0 (S0.cmp rfl rfl rfl) rfl <| vE <| ?_
      first | refine WP.condP rfl (fun h3 => ?_) (fun h3 => ?_) | refine WP.condN rfl (fun h3 => ?_) (fun h3 => ?_) | refine WP.cond rfl (fun h3 => ?_) (fun h3 => ?_)
      · rw [if_pos (by omega)] at hrec
        refine WP.region <| v0 (S0.move rfl) rfl <| v0 (S0.move rfl) rfl <| v0 (S0.move rfl) rfl <| ?_
        refine v0 (S0.index1 rfl rfl hlt) rfl <| ?_
        refine v0 (S0.load rfl (strs_get hx)) rfl <| ?_
        refine v0 (S0.move rfl) rfl <| ?_
        refine v0 (S0.sliceSt (i := k) (j := x.length) rfl rfl rfl ⟨by omega, Nat.le_refl _⟩) rfl <| ?_
        rw [show (x.drop k).take (x.length - k) = x.drop k from List.take_of_length_le (by rw [List.length_drop]; exact Nat.le_refl _)]
        refine vnv (S1.buildSlice rfl (qs := [(0, _)]) rfl rfl) rfl fun b47 => ?_
        refine ve (S1.appendL rfl hsA rfl rfl (atS (atS at0)) rfl rfl (by rw [strs_len]; simp; omega)) rfl ?_
        rintro v2 _ ⟨row2, hsA2, rfl⟩
        refine v0 (S0.assign rfl) rfl <| vE <| WP.region <| v0 (S0.move rfl) rfl <| v0 (S0.ari rfl rfl rfl (wrap_i64 (by omega))) rfl <| v0 (S0.assign rfl) rfl <| vE <| ?_
        exact ⟨(i + 1, A ++ [x.drop k], v2, row2), (by first | exact ⟨hlt, by rw [hrec]; simp, by simp; omega, by simpa [strs] using hsA2⟩ | (dsimp only; exact ⟨hlt, by rw [hrec]; simp, by simp; omega, by simpa [strs] using hsA2⟩)), (show L.length - (i + 1) < L.length - i by omega), ⟨⟨rfl, rfl, rfl, rfl, trivial⟩, rfl, rfl⟩, ⟨_, (take1 (atS (atS at0)) (take1 at0 take0))⟩⟩
      · rw [if_neg (by omega)] at hrec
        refine WP.skip <| WP.region <| v0 (S0.move rfl) rfl <| v0 (S0.ari rfl rfl rfl (wrap_i64 (by omega))) rfl <| v0 (S0.assign rfl) rfl <| vE <| ?_
        exact ⟨(i + 1, A, v, row), (by first | exact ⟨hlt, hrec, by omega, hsA⟩ | (dsimp only; exact ⟨hlt, hrec, by omega, hsA⟩)), (show L.length - (i + 1) < L.length - i by omega), ⟨⟨rfl, rfl, rfl, rfl, trivial⟩, rfl, rfl⟩, ⟨_, (take1 at0 (take1 at0 take0))⟩⟩
  · have e : i = L.length := by omega
    rw [e, List.drop_length, recsB, List.append_nil] at hrec
    refine WP.exit <| WP.seq <| WP.region <| v0 (S0.move rfl) rfl <| v0 (S0.assign rfl) rfl <| vE <| WP.ret <| ?_
    refine Leaves.drop (take1 (atS at0) take0) ?_
    refine r1 rfl rfl ?_
    exact ⟨row, by rw [hrec]; exact hsA, rfl⟩
theorem xtext_spec {v : Value} {L : List Str} {row : List Blk} (hs : IsSl 9 1 v (strs L) row) (hL : ∀ x ∈ L, x.length ≤ 65536) (hl : L.length ≤ 1000000) {rd : Nat} (hr : rd < 4611686018427387904) : FN Tryz.prog 89 [.int .i64 (rd : Int), v] [row] (is (sv (textL rd L)) [row]) := by
  obtain ⟨va, cap, rfl, hcap, hrow⟩ := hs.strsE
  refine FN.intro 22 [(0, .int .i64 (rd : Int)), (1, .slice va L.length cap)] Tryz.func89 rfl (enters Tryz.func89 (by kernel_rfl) rfl) Tryz.ntmps89 rfl rfl ?_
  refine WP.seq <| WP.region <| v0 (S0.assign rfl) rfl <| vE <| WP.seq <| WP.region <| v0 (S0.assign rfl) rfl <| vE <| WP.seq <| WP.seq <| WP.region <| v0 (S0.assign rfl) rfl <| vE <| WP.block <| ?_
  refine WP.loop (fun i : Nat => i ≤ L.length) (fun i : Nat => [(0, .int .i64 (rd : Int)), (1, .slice va L.length cap), (5, sv (textL rd (L.take i))), (6, .int .i64 (i : Int))]) (fun i : Nat => [row]) (fun i : Nat => L.length - i) (0) (Nat.zero_le _) ⟨rfl, rfl, rfl, rfl, trivial⟩ ⟨_, (take1 at0 take0)⟩ (fun i hinv => ?_)
  refine WP.seq <| WP.seq <| WP.region <| v0 (S0.move rfl) rfl <| v0 (S0.move rfl) rfl <| v0 (S0.lenSl rfl) rfl <| v0 (S0.cmp rfl rfl rfl) rfl <| vE <| ?_
  first | refine WP.condP rfl (fun h1 => ?_) (fun h1 => ?_) | refine WP.condN rfl (fun h1 => ?_) (fun h1 => ?_) | refine WP.cond rfl (fun h1 => ?_) (fun h1 => ?_)
  · have hlt : i < L.length := by omega
    rcases hrow with ⟨rfl, -⟩ | ⟨b1, sp1, rfl, rfl, hsp1⟩
    · simp at hlt
    have hx : L[i]? = some L[i] := by simp [hlt]
    have hxl := hL _ (List.getElem_mem hlt)
    generalize L[i] = x at hx hxl
    have htl := textL_le rd (L.take i) fun y hy => hL y (List.mem_of_mem_take hy)
    have htk : (L.take i).length ≤ 1000000 := by rw [List.length_take]; omega
    have hrb := rowB_le rd (s := x)
    have htx : textL rd (L.take i) ++ rowB rd x = textL rd (L.take (i + 1)) := by rw [List.take_add_one, hx, textL_app]; simp [textL]
    refine WP.skip <| WP.seq <| WP.block <| WP.region <| v0 (S0.move rfl) rfl <| v0 (S0.move rfl) rfl <| v0 (S0.move rfl) rfl <| v0 (S0.move rfl) rfl <| ?_
    refine v0 (S0.index1 rfl rfl hlt) rfl <| ?_
    refine v0 (S0.load rfl (strs_get hx)) rfl <| ?_
    refine vcd (S1.callF rfl (xrow_spec (rd := rd) hr (s := x) (by omega)) take0) rfl ?_
    refine v0 (S0.addS rfl rfl (by omega)) rfl <| ?_
    rw [htx]
    refine v0 (S0.assign rfl) rfl <| vE <| WP.region <| v0 (S0.move rfl) rfl <| v0 (S0.ari rfl rfl rfl (wrap_i64 (by omega))) rfl <| v0 (S0.assign rfl) rfl <| vE <| ?_
    exact ⟨i + 1, (by first | exact hlt | (dsimp only; exact hlt)), (show L.length - (i + 1) < L.length - i by omega), ⟨⟨rfl, rfl, rfl, rfl, trivial⟩, rfl, rfl⟩, ⟨_, (take1 at0 take0)⟩⟩
  · have e : i = L.length := by omega
    rw [e, List.take_length]
    refine WP.exit <| WP.seq <| WP.region <| v0 (S0.move rfl) rfl <| v0 (S0.assign rfl) rfl <| vE <| WP.ret <| ?_
    refine r1 rfl rfl ⟨?_, rfl⟩
    rfl
theorem xsync_spec {lb rb : Nat} {G : Lg} {c : List Blk} (h : IsRLog lb rb G c) {D : Dk} {dc : List Blk} (hd : IsRDk rb D dc) (hk : DkOk D) (hW : D.W.length ≤ 1000000) : FN Tryz.prog 19 [ptrB lb] [c, dc] (fun _ h => ∃ c' dc', IsRLog lb rb (syncLg G) c' ∧ IsRDk rb (syncK D) dc' ∧ h = [c', dc']) := by
  obtain ⟨v, row, hs, rfl⟩ := h
  obtain ⟨a, cap, rfl, hcap, -⟩ := hs.strsE
  refine FN.intro 15 [(0, ptrB lb)] Tryz.func19 rfl (enters Tryz.func19 (by kernel_rfl) rfl) Tryz.ntmps19 rfl rfl ?_
  refine WP.seq <| WP.region <| v0 (S0.move rfl) rfl <| v0 (S0.nilCheck rfl) rfl <| v0 (S0.fieldAddr rfl) rfl <| v0 (S0.load rfl rfl) rfl <| ?_
  refine vc (S1.callF rfl (rdsync_spec hd hk hW) (take1 (atS at0) take0)) rfl ?_
  rintro _ _ ⟨dc2, hd2, rfl⟩
  refine app ?_
  refine vE <| WP.region <| v0 (S0.move rfl) rfl <| v0 (S0.move rfl) rfl <| v0 (S0.nilCheck rfl) rfl <| v0 (S0.fieldAddr rfl) rfl <| v0 (S0.load rfl rfl) rfl <| v0 (S0.lenSl rfl) rfl <| v0 (S0.nilCheck rfl) rfl <| v0 (S0.fieldAddr rfl) rfl <| vs (S1.store rfl rfl (by first | rfl | exact IsSl.cv (by assumption))) <| vE <| ?_
  refine Leaves.drop (take1 (atS at0) (take1 at0 take0)) ?_
  refine r0 rfl ?_
  exact ⟨_, dc2, ⟨_, row, hs, rfl⟩, hd2, rfl⟩
theorem xappend_spec {lb rb : Nat} {G : Lg} {c : List Blk} (h : IsRLog lb rb G c) (ho : LgOk G) {D : Dk} {dc : List Blk} (hd : IsRDk rb D dc) (hk : DkOk D) (hW : D.W.length ≤ 1000000) (s : Str) : FN Tryz.prog 103 [ptrB lb, sv s] [c, dc] (fun u h => ∃ c' dc', IsRLog lb rb (appendLg G D s).2.1 c' ∧ IsRDk rb (appendLg G D s).2.2 dc' ∧ u = .int .i64 (appendLg G D s).1 ∧ h = [c', dc']) := by
  have h0 := h
  have hrd := ho.rd
  have hgl := ho.l
  have hrb := rowB_le G.rd (s := s)
  obtain ⟨v, row, hs, rfl⟩ := h
  obtain ⟨a, cap, rfl, hcap, hrow⟩ := hs.strsE
  refine FN.intro 33 [(0, ptrB lb), (1, sv s)] Tryz.func103 rfl (enters Tryz.func103 (by kernel_rfl) rfl) Tryz.ntmps103 rfl rfl ?_
  refine WP.seq <| WP.region <| v0 (S0.assign rfl) rfl <| vE <| WP.seq <| WP.seq <| WP.region <| v0 (S0.move rfl) rfl <| v0 (S0.lenSt rfl) rfl <| v0 (S0.cmp rfl rfl rfl) rfl <| vE <| ?_
  first | refine WP.condP rfl (fun h1 => ?_) (fun h1 => ?_) | refine WP.condN rfl (fun h1 => ?_) (fun h1 => ?_) | refine WP.cond rfl (fun h1 => ?_) (fun h1 => ?_)
  · have e : appendLg G D s = (2, G, D) := by unfold appendLg; rw [if_pos (by omega)]
    refine WP.seq <| WP.region <| v0 (S0.assign rfl) rfl <| vE <| WP.ret <| ?_
    refine r1 rfl rfl ?_
    rw [e]; exact ⟨_, dc, h0, hd, rfl, rfl⟩
  · have e : appendLg G D s = if (appendK D 1 (rowB G.rd s)).1 ≠ 0 then ((appendK D 1 (rowB G.rd s)).1, G, D) else (0, { G with l := G.l ++ [s] }, (appendK D 1 (rowB G.rd s)).2) := by unfold appendLg; rw [if_neg (by omega)]
    refine WP.perm (h' := [[rlB lb rb G.rd G.st (.slice a G.l.length cap) G.sure], row, dc]) (k := []) (pm fun a_ => by (try simp only [List.flatten_append, List.flatten_cons, List.flatten_nil, List.append_nil, List.cons_append, List.nil_append, List.append_assoc, nOf_app, nOf_cons, nOf_nil, Nat.add_zero, Nat.zero_add, List.map_append, List.map_cons, List.map_nil, cel, sv]); first | done | omega) ?_
    refine WP.skip <| WP.seq <| WP.drawP [(0, none), (1, none), (2, none), (3, none), (4, none), (5, none), (6, none), (7, none), (8, none), (9, none), (10, none), (11, none)] mixed (by kernel_rfl) (by kernel_rfl) (by kernel_rfl) (take1 at0 take0) <| w0 rfl rfl rfl (S0.move rfl) rfl <| w0 rfl rfl rfl (S0.nilCheck rfl) rfl <| w0 rfl rfl rfl (S0.fieldAddr rfl) rfl <| w0 rfl rfl rfl (S0.load rfl rfl) rfl <| w0 rfl rfl rfl (S0.move rfl) rfl <| w0 rfl rfl rfl (S0.nilCheck rfl) rfl <| w0 rfl rfl rfl (S0.fieldAddr rfl) rfl <| w0 rfl rfl rfl (S0.load rfl rfl) rfl <| w0 rfl rfl rfl (S0.move rfl) rfl <| ?_
    refine wcd rfl rfl rfl rfl (S1.callF rfl (xrow_spec (rd := G.rd) (by omega) (s := s) (by omega)) take0) rfl ?_
    refine wc rfl rfl rfl rfl (S1.callF rfl (rappend_spec hd hk hW (f := 1) (by omega) (rowB G.rd s) (by omega)) (take1 (atS at0) take0)) rfl ?_
    rintro _ _ ⟨dc2, hd2, rfl, rfl⟩
    refine wapp ?_
    refine w0 rfl rfl rfl (S0.assign rfl) rfl <| wE <| WP.seq <| WP.seq <| WP.region <| v0 (S0.move rfl) rfl <| v0 (S0.cmp rfl rfl rfl) rfl <| vE <| ?_
    first | refine WP.condP rfl (fun h2 => ?_) (fun h2 => ?_) | refine WP.condN rfl (fun h2 => ?_) (fun h2 => ?_) | refine WP.cond rfl (fun h2 => ?_) (fun h2 => ?_)
    · rw [if_neg (by simpa using h2)] at e
      refine WP.region <| v0 (S0.move rfl) rfl <| v0 (S0.move rfl) rfl <| v0 (S0.nilCheck rfl) rfl <| v0 (S0.fieldAddr rfl) rfl <| v0 (S0.load rfl rfl) rfl <| v0 (S0.move rfl) rfl <| vnv (S1.buildSlice rfl (qs := [(0, _)]) rfl rfl) rfl fun b28 => ?_
      refine ve (S1.appendL rfl hs rfl rfl (atS (atS (atS at0))) rfl rfl (by rw [strs_len]; simp; omega)) rfl ?_
      rintro v2 _ ⟨row2, hs2, rfl⟩
      refine v0 (S0.nilCheck rfl) rfl <| v0 (S0.fieldAddr rfl) rfl <| vs (S1.store rfl rfl (by first | rfl | exact IsSl.cv (by assumption))) <| vE <| WP.seq <| WP.region <| v0 (S0.move rfl) rfl <| v0 (S0.assign rfl) rfl <| vE <| WP.ret <| ?_
      refine Leaves.drop (h' := [rlB lb rb G.rd G.st v2 G.sure :: row2, dc2]) (k := [[(b28, .cells ⟨[sv s]⟩ 9 (0, 0))]]) (pm fun a_ => by (try simp only [List.flatten_append, List.flatten_cons, List.flatten_nil, List.append_nil, List.cons_append, List.nil_append, List.append_assoc, nOf_app, nOf_cons, nOf_nil, Nat.add_zero, Nat.zero_add, List.map_append, List.map_cons, List.map_nil, cel, sv, rlB]); first | done | omega) ?_
      refine r1 rfl rfl ?_
      rw [e]; exact ⟨_, dc2, ⟨v2, row2, by simpa [strs] using hs2, rfl⟩, hd2, by rw [h2], rfl⟩
    · have h2' : (appendK D 1 (rowB G.rd s)).1 ≠ 0 := by simpa using h2
      rw [if_pos h2'] at e
      have e2 : (appendK D 1 (rowB G.rd s)).2 = D := by
        unfold appendK at h2' ⊢
        by_cases hc : 65536 < (D.now.get 1).length + (rowB G.rd s).length
        · rw [if_pos hc]
        · rw [if_neg hc] at h2'; exact absurd rfl h2'
      rw [e2] at hd2
      refine WP.skip <| WP.seq <| WP.region <| v0 (S0.move rfl) rfl <| v0 (S0.assign rfl) rfl <| vE <| WP.ret <| ?_
      refine Leaves.drop (h' := [rlB lb rb G.rd G.st (.slice a G.l.length cap) G.sure :: row, dc2]) (k := []) (pm fun a_ => by (try simp only [List.flatten_append, List.flatten_cons, List.flatten_nil, List.append_nil, List.cons_append, List.nil_append, List.append_assoc, nOf_app, nOf_cons, nOf_nil, Nat.add_zero, Nat.zero_add, List.map_append, List.map_cons, List.map_nil, cel, sv]); first | done | omega) ?_
      refine r1 rfl rfl ?_
      rw [e]; exact ⟨_, dc2, h0, hd2, rfl, rfl⟩
theorem xcheck_spec {lb rb : Nat} {G : Lg} {c : List Blk} (h : IsRLog lb rb G c) (ho : LgOk G) {D : Dk} {dc : List Blk} (hd : IsRDk rb D dc) (hW : D.W.length ≤ 900000) (s : Str) : FN Tryz.prog 101 [ptrB lb, sv s] [c, dc] (fun u h => ∃ c' dc', IsRLog lb rb (checkLg G D s).2.1 c' ∧ IsRDk rb (checkLg G D s).2.2 dc' ∧ u = .int .i64 (checkLg G D s).1 ∧ h = [c', dc']) := by
  have h0 := h
  have hrd := ho.rd
  obtain ⟨v, row, hs, rfl⟩ := h
  obtain ⟨a, cap, rfl, hcap, hrow⟩ := hs.strsE
  refine FN.intro 42 [(0, ptrB lb), (1, sv s)] Tryz.func101 rfl (enters Tryz.func101 (by kernel_rfl) rfl) Tryz.ntmps101 rfl rfl ?_
  refine WP.seq <| WP.region <| v0 (S0.assign rfl) rfl <| vE <| WP.seq <| WP.seq <| WP.region <| v0 (S0.move rfl) rfl <| v0 (S0.lenSt rfl) rfl <| v0 (S0.cmp rfl rfl rfl) rfl <| vE <| ?_
  first | refine WP.condP rfl (fun h1 => ?_) (fun h1 => ?_) | refine WP.condN rfl (fun h1 => ?_) (fun h1 => ?_) | refine WP.cond rfl (fun h1 => ?_) (fun h1 => ?_)
  · have e : checkLg G D s = (2, G, D) := by unfold checkLg; rw [if_pos (by omega)]
    refine WP.seq <| WP.region <| v0 (S0.assign rfl) rfl <| vE <| WP.ret <| ?_
    refine r1 rfl rfl ?_
    rw [e]; exact ⟨_, dc, h0, hd, rfl, rfl⟩
  · have e : checkLg G D s = (0, ⟨G.rd + 1, s, [], 0⟩, (replaceK (replaceK D 0 (rowB (G.rd + 1) s)).2 1 []).2) := by unfold checkLg; rw [if_neg (by omega)]
    refine WP.perm (h' := [[rlB lb rb G.rd G.st (.slice a G.l.length cap) G.sure], row, dc]) (k := []) (pm fun a_ => by (try simp only [List.flatten_append, List.flatten_cons, List.flatten_nil, List.append_nil, List.cons_append, List.nil_append, List.append_assoc, nOf_app, nOf_cons, nOf_nil, Nat.add_zero, Nat.zero_add, List.map_append, List.map_cons, List.map_nil, cel, sv]); first | done | omega) ?_
    refine WP.skip <| WP.seq <| WP.region <| v0 (S0.move rfl) rfl <| v0 (S0.move rfl) rfl <| v0 (S0.nilCheck rfl) rfl <| v0 (S0.fieldAddr rfl) rfl <| v0 (S0.load rfl rfl) rfl <| v0 (S0.ari rfl rfl rfl (wrap_i64 (by omega))) rfl <| v0 (S0.nilCheck rfl) rfl <| v0 (S0.fieldAddr rfl) rfl <| vs (S1.store rfl rfl (by first | rfl | exact IsSl.cv (by assumption))) <| vE <| WP.seq <| WP.region <| v0 (S0.move rfl) rfl <| v0 (S0.move rfl) rfl <| v0 (S0.nilCheck rfl) rfl <| v0 (S0.fieldAddr rfl) rfl <| vs (S1.store rfl rfl (by first | rfl | exact IsSl.cv (by assumption))) <| vE <| WP.seq <| WP.region <| v0 (S0.move rfl) rfl <| v0 (S0.nilCheck rfl) rfl <| v0 (S0.fieldAddr rfl) rfl <| vs (S1.store rfl rfl (by first | rfl | exact IsSl.cv (by assumption))) <| vE <| WP.seq <| WP.region <| v0 (S0.move rfl) rfl <| v0 (S0.nilCheck rfl) rfl <| v0 (S0.fieldAddr rfl) rfl <| vs (S1.store rfl rfl (by first | rfl | exact IsSl.cv (by assumption))) <| vE <| ?_
    refine WP.seq <| WP.drawP [(0, none), (1, none), (2, none), (3, none), (4, none), (5, none), (6, none), (7, none), (8, none), (9, none), (10, none)] mixed (by kernel_rfl) (by kernel_rfl) (by kernel_rfl) (take1 at0 take0) <| w0 rfl rfl rfl (S0.move rfl) rfl <| w0 rfl rfl rfl (S0.nilCheck rfl) rfl <| w0 rfl rfl rfl (S0.fieldAddr rfl) rfl <| w0 rfl rfl rfl (S0.load rfl rfl) rfl <| w0 rfl rfl rfl (S0.move rfl) rfl <| w0 rfl rfl rfl (S0.nilCheck rfl) rfl <| w0 rfl rfl rfl (S0.fieldAddr rfl) rfl <| w0 rfl rfl rfl (S0.load rfl rfl) rfl <| w0 rfl rfl rfl (S0.move rfl) rfl <| ?_
    rw [show (G.rd : Int) + 1 = ((G.rd + 1 : Nat) : Int) by omega]
    refine wcd rfl rfl rfl rfl (S1.callF rfl (xrow_spec (rd := G.rd + 1) (by omega) (s := s) (by omega)) take0) rfl ?_
    have hw1 := replace_W D 0 (rowB (G.rd + 1) s)
    refine wc rfl rfl rfl rfl (S1.callF rfl (rreplace_spec hd (by omega) (f := 0) (by omega) (rowB (G.rd + 1) s)) (take1 (atS at0) take0)) rfl ?_
    rintro _ _ ⟨dc2, hd2, rfl, rfl⟩
    refine wapp ?_
    refine wE <| WP.seq <| WP.region <| v0 (S0.move rfl) rfl <| v0 (S0.nilCheck rfl) rfl <| v0 (S0.fieldAddr rfl) rfl <| v0 (S0.load rfl rfl) rfl <| ?_
    refine vc (S1.callF rfl (rreplace_spec hd2 (by omega) (f := 1) (by omega) []) (take1 (atS at0) take0)) rfl ?_
    rintro _ _ ⟨dc3, hd3, rfl, rfl⟩
    refine app ?_
    refine vE <| WP.seq <| WP.region <| v0 (S0.assign rfl) rfl <| vE <| WP.ret <| ?_
    refine Leaves.drop (take1 (atS at0) (take1 at0 take0)) ?_
    refine r1 rfl rfl ?_
    rw [e]; exact ⟨_, dc3, ⟨.slice none 0 0, [], IsSl.nil, rfl⟩, hd3, rfl, rfl⟩
theorem xopen_spec {rb : Nat} {D : Dk} {dc : List Blk} (hd : IsRDk rb D dc) (hk : DkG D) (hW : D.W.length ≤ 900000) : FN Tryz.prog 42 [ptrB rb] [dc] (fun u h => ((openLg D).1 ≠ 0 ∧ u = .tuple ⟨[.pointer none, .int .i64 (openLg D).1]⟩ ∧ h = [dc]) ∨
    ((openLg D).1 = 0 ∧ ∃ lb lc dc', IsRLog lb rb (openLg D).2.1 lc ∧ IsRDk rb (openLg D).2.2 dc' ∧ u = .tuple ⟨[ptrB lb, .int .i64 0]⟩ ∧ h = [lc, dc'])) := by
  have hn0 := hk.ok.now 0
  have hn1 := hk.ok.now 1
  obtain ⟨hrd, hst⟩ := head_le hn0
  obtain ⟨hal, han⟩ := allB_le (D.now.get 1)
  have ho : openLg D = if (headB (D.now.get 0)).2.2 ≠ 0 then ((headB (D.now.get 0)).2.2, ⟨0, [], [], 0⟩, D) else (0, ⟨(headB (D.now.get 0)).1, (headB (D.now.get 0)).2.1, recsB (headB (D.now.get 0)).1 (allB (D.now.get 1)), (recsB (headB (D.now.get 0)).1 (allB (D.now.get 1))).length⟩, syncK (if textL (headB (D.now.get 0)).1 (recsB (headB (D.now.get 0)).1 (allB (D.now.get 1))) ≠ D.now.get 1 then (replaceK D 1 (textL (headB (D.now.get 0)).1 (recsB (headB (D.now.get 0)).1 (allB (D.now.get 1))))).2 else D)) := rfl
  refine FN.intro 44 [(0, ptrB rb)] Tryz.func42 rfl (enters Tryz.func42 (by kernel_rfl) rfl) Tryz.ntmps42 rfl rfl ?_
  refine WP.seq <| WP.region <| v0 (S0.assign rfl) rfl <| v0 (S0.assign rfl) rfl <| vE <| WP.seq <| WP.region <| v0 (S0.move rfl) rfl <| ?_
  refine vcd (S1.callF rfl (rread_spec hd hk.ok (by omega) (f := 0) (by omega)) (take1 at0 take0)) rfl ?_
  refine vcd (S1.callF rfl (xhead_spec hn0) take0) rfl ?_
  generalize (headB (D.now.get 0)).1 = rd at hrd ho
  generalize (headB (D.now.get 0)).2.1 = st at hst ho
  generalize (headB (D.now.get 0)).2.2 = er at ho
  refine v0 (S0.move rfl) rfl <| v0 (S0.extract rfl rfl) rfl <| v0 (S0.extract rfl rfl) rfl <| v0 (S0.extract rfl rfl) rfl <| v0 (S0.assign rfl) rfl <| v0 (S0.assign rfl) rfl <| v0 (S0.assign rfl) rfl <| vE <| WP.seq <| WP.seq <| WP.region <| v0 (S0.move rfl) rfl <| v0 (S0.cmp rfl rfl rfl) rfl <| vE <| ?_
  first | refine WP.condP rfl (fun h1 => ?_) (fun h1 => ?_) | refine WP.condN rfl (fun h1 => ?_) (fun h1 => ?_) | refine WP.cond rfl (fun h1 => ?_) (fun h1 => ?_)
  · rw [if_pos h1] at ho
    refine WP.seq <| WP.region <| v0 (S0.move rfl) rfl <| v0 (S0.assign rfl) rfl <| v0 (S0.assign rfl) rfl <| vE <| WP.ret <| ?_
    refine r2 rfl rfl rfl ?_
    rw [ho]; exact .inl ⟨h1, rfl, rfl⟩
  · have h1' : er = 0 := by simpa using h1
    subst h1'
    rw [if_neg (by simp)] at ho
    obtain ⟨hrl, hrn⟩ := recs_le rd _ hal
    refine WP.skip <| WP.seq <| WP.region <| v0 (S0.move rfl) rfl <| v0 (S0.move rfl) rfl <| v0 (S0.move rfl) rfl <| v0 (S0.move rfl) rfl <| ?_
    refine vcd (S1.callF rfl (rread_spec hd hk.ok (by omega) (f := 1) (by omega)) (take1 at0 take0)) rfl ?_
    refine v0 (S0.move rfl) rfl <| ?_
    refine vc (S1.callF rfl (xrecords_spec hn1 (rd := rd) (by omega)) take0) rfl ?_
    rintro v _ ⟨row, hsR, rfl⟩
    refine app ?_
    generalize hR : recsB rd (allB (D.now.get 1)) = R at hsR hrl hrn ho
    obtain ⟨va, cap, rfl, hcap, -⟩ := hsR.strsE
    refine v0 (S0.build rfl (qs := [(0, _), (1, _), (2, _), (3, _)]) rfl) rfl <| vn (S1.box rfl rfl) rfl fun b27 => v0 (S0.assign rfl) rfl <| vE <| WP.seq <| WP.region <| v0 (S0.move rfl) rfl <| v0 (S0.move rfl) rfl <| v0 (S0.nilCheck rfl) rfl <| v0 (S0.fieldAddr rfl) rfl <| v0 (S0.load rfl rfl) rfl <| ?_
    refine vcd (S1.callF rfl (xtext_spec hsR hrl (by omega) (rd := rd) (by omega)) (take1 (atS at0) take0)) rfl ?_
    refine v0 (S0.assign rfl) rfl <| vE <| WP.seq <| WP.seq <| WP.region <| v0 (S0.move rfl) rfl <| v0 (S0.move rfl) rfl <| ?_
    refine vcd (S1.callF rfl (rread_spec hd hk.ok (by omega) (f := 1) (by omega)) (take1 (atS (atS at0)) take0)) rfl ?_
    refine v0 (S0.cmpS rfl rfl rfl) rfl <| vE <| ?_
    first | refine WP.condP rfl (fun h2 => ?_) (fun h2 => ?_) | refine WP.condN rfl (fun h2 => ?_) (fun h2 => ?_) | refine WP.cond rfl (fun h2 => ?_) (fun h2 => ?_)
    · rw [if_pos h2] at ho
      have hw1 := replace_W D 1 (textL rd R)
      refine WP.region <| v0 (S0.move rfl) rfl <| v0 (S0.move rfl) rfl <| ?_
      refine vc (S1.callF rfl (rreplace_spec hd (by omega) (f := 1) (by omega) (textL rd R)) (take1 at0 take0)) rfl ?_
      rintro _ _ ⟨dc2, hd2, rfl, rfl⟩
      refine app ?_
      refine vE <| WP.seq <| WP.region <| v0 (S0.move rfl) rfl <| ?_
      refine WO.perm (h' := [rlB b27 rb rd st (.slice va R.length cap) 0 :: row, dc2]) (k := []) (pm fun a_ => by (try simp only [List.flatten_append, List.flatten_cons, List.flatten_nil, List.append_nil, List.cons_append, List.nil_append, List.append_assoc, nOf_app, nOf_cons, nOf_nil, Nat.add_zero, Nat.zero_add, List.map_append, List.map_cons, List.map_nil, cel, sv, rlB, ptrB]); first | done | omega) ?_
      refine vc (S1.callF rfl (xsync_spec (lb := b27) (G := ⟨rd, st, R, 0⟩) ⟨_, row, hsR, rfl⟩ hd2 (hk.replace (by omega) _).ok (by omega)) (take1 at0 (take1 at0 take0))) rfl ?_
      rintro _ _ ⟨lc3, dc3, hl3, hd3, rfl⟩
      refine app ?_
      refine vE <| WP.seq <| WP.region <| v0 (S0.move rfl) rfl <| v0 (S0.assign rfl) rfl <| v0 (S0.assign rfl) rfl <| vE <| WP.ret <| ?_
      refine r2 rfl rfl rfl ?_
      rw [ho]; exact .inr ⟨rfl, b27, lc3, dc3, hl3, hd3, rfl, rfl⟩
    · rw [if_neg (by simpa using h2)] at ho
      refine WP.skip <| WP.seq <| WP.region <| v0 (S0.move rfl) rfl <| ?_
      refine WO.perm (h' := [rlB b27 rb rd st (.slice va R.length cap) 0 :: row, dc]) (k := []) (pm fun a_ => by (try simp only [List.flatten_append, List.flatten_cons, List.flatten_nil, List.append_nil, List.cons_append, List.nil_append, List.append_assoc, nOf_app, nOf_cons, nOf_nil, Nat.add_zero, Nat.zero_add, List.map_append, List.map_cons, List.map_nil, cel, sv, rlB, ptrB]); first | done | omega) ?_
      refine vc (S1.callF rfl (xsync_spec (lb := b27) (G := ⟨rd, st, R, 0⟩) ⟨_, row, hsR, rfl⟩ hd hk.ok (by omega)) (take1 at0 (take1 at0 take0))) rfl ?_
      rintro _ _ ⟨lc3, dc3, hl3, hd3, rfl⟩
      refine app ?_
      refine vE <| WP.seq <| WP.region <| v0 (S0.move rfl) rfl <| v0 (S0.assign rfl) rfl <| v0 (S0.assign rfl) rfl <| vE <| WP.ret <| ?_
      refine r2 rfl rfl rfl ?_
      rw [ho]; exact .inr ⟨rfl, b27, lc3, dc3, hl3, hd3, rfl, rfl⟩
end Go.Proofs.YtjpjebfodhbdfaaGreatDoor
namespace Go.Proofs.YtjpjebfodhbdfaaGreatDoor
open Go
theorem rinI_spec (n a b : Int) : FN Tryz.prog 132 [.int .i64 n, .int .i64 a, .int .i64 b] [] (is (.bool (inI n a b)) []) := by
  refine FN.intro 15 [(0, .int .i64 n), (1, .int .i64 a), (2, .int .i64 b)] Tryz.func132 rfl (enters Tryz.func132 (by kernel_rfl) rfl) Tryz.ntmps132 rfl rfl ?_
  refine WP.seq <| WP.region <| v0 (S0.assign rfl) rfl <| vE <| WP.seq <| WP.region <| v0 (S0.move rfl) rfl <| v0 (S0.move rfl) rfl <| v0 (S0.cmp rfl rfl rfl) rfl <| v0 (S0.move rfl) rfl <| ?_
  first | refine csP (t := 10) rfl (fun h1 => ?_) (fun h1 => ?_) | refine csN (t := 10) rfl (fun h1 => ?_) (fun h1 => ?_) | refine cs (t := 10) rfl (fun h1 => ?_) (fun h1 => ?_)
  · refine gT rfl <| v0 (S0.move rfl) rfl <| gT rfl <| v0 (S0.move rfl) rfl <| gT rfl <| v0 (S0.cmp rfl rfl rfl) rfl <| v0 (S0.pickT rfl rfl) rfl <| v0 (S0.assign rfl) rfl <| vE <| WP.ret <| ?_
    refine r1 rfl rfl ⟨?_, rfl⟩
    simp [inI, h1]
  · refine gF rfl rfl <| gF rfl rfl <| gF rfl rfl <| v0 (S0.pickF rfl rfl) rfl <| v0 (S0.assign rfl) rfl <| vE <| WP.ret <| ?_
    refine r1 rfl rfl ⟨?_, rfl⟩
    simp [inI]; omega
theorem badM_is {last : Int} {x : MkT} (hl : -1 ≤ last) : badM last x = (!inI x.1 0 1099511627776 || !inI x.2 1 1099511627776 || decide (x.1 ≤ last)) := by
  rw [Bool.eq_iff_iff]
  simp only [badM, inI, Bool.or_eq_true, Bool.not_eq_true', Bool.and_eq_false_iff, decide_eq_true_eq, decide_eq_false_iff_not]
  omega
theorem rsorted_spec {v : Value} {l : List MkT} {row : List Blk} (hs : IsSl 63 2 v (l.flatMap enM) row) (hl : l.length ≤ 1000000) : FN Tryz.prog 114 [v] [row] (is (.bool (sortedM l)) [row]) := by
  obtain ⟨a, cap, rfl, hcap, hrow⟩ := IsSl.elems (k := 1) enM_len hs
  refine FN.intro 47 [(0, .slice a l.length cap)] Tryz.func114 rfl (enters Tryz.func114 (by kernel_rfl) rfl) Tryz.ntmps114 rfl rfl ?_
  refine WP.seq <| WP.region <| v0 (S0.assign rfl) rfl <| vE <| WP.seq <| WP.seq <| WP.region <| v0 (S0.assign rfl) rfl <| vE <| WP.block <| ?_
  refine WP.loop (fun st : Nat × Int => st.1 ≤ l.length ∧ risM (-1) l = risM st.2 (l.drop st.1) ∧ -1 ≤ st.2 ∧ (st.1 = 0 → st.2 = -1) ∧ ∀ y, st.1 ≠ 0 → l[st.1 - 1]? = some y → st.2 = y.1) (fun st : Nat × Int => [(0, .slice a l.length cap), (3, .int .i64 (st.1 : Int))]) (fun st : Nat × Int => [row]) (fun st : Nat × Int => l.length - st.1) ((0, -1)) (⟨Nat.zero_le _, rfl, by decide, fun _ => rfl, fun y h => absurd rfl h⟩) ⟨rfl, rfl, trivial⟩ ⟨_, (take1 at0 take0)⟩ (fun st hinv => ?_)
  obtain ⟨k, last⟩ := st
  obtain ⟨hk, hr, hge, hz, hla⟩ := hinv
  dsimp only at hk hr hge hz hla ⊢
  refine WP.seq <| WP.seq <| WP.region <| v0 (S0.move rfl) rfl <| v0 (S0.move rfl) rfl <| v0 (S0.lenSl rfl) rfl <| v0 (S0.cmp rfl rfl rfl) rfl <| vE <| ?_
  first | refine WP.condP rfl (fun h1 => ?_) (fun h1 => ?_) | refine WP.condN rfl (fun h1 => ?_) (fun h1 => ?_) | refine WP.cond rfl (fun h1 => ?_) (fun h1 => ?_)
  · have hlt : k < l.length := by omega
    rcases hrow with ⟨e, -⟩ | ⟨b1, sp1, rfl, rfl, hsp1⟩
    · rw [e] at hlt; simp at hlt
    have hx : l[k]? = some l[k] := by simp [hlt]
    have hd : l.drop k = l[k] :: l.drop (k + 1) := List.drop_eq_getElem_cons hlt
    generalize l[k] = x at hx hd
    rw [hd, risM, badM_is hge] at hr
    have g0 := flat_get enM_len sp1 l k 0 x hx (by decide)
    have g1 := flat_get enM_len sp1 l k 1 x hx (by decide)
    refine WP.skip <| WP.seq <| WP.block <| WP.seq <| WP.drawP [(0, none), (1, none), (2, none), (3, none), (4, none), (5, none), (6, none), (7, none), (8, none), (9, none), (10, none), (11, none), (12, none), (13, none), (14, none), (15, none), (16, none), (17, none), (18, none), (19, none), (20, none), (21, none), (22, none), (23, none), (24, none), (25, none), (26, none), (27, none), (28, none), (29, none), (30, none), (31, none), (32, none), (33, none)] mixed (by kernel_rfl) (by kernel_rfl) (by kernel_rfl) (take1 at0 take0) <| w0 rfl rfl rfl (S0.move rfl) rfl <| w0 rfl rfl rfl (S0.move rfl) rfl <| ?_
    refine w0 rfl rfl rfl (S0.indexN (k := 2) rfl rfl hlt) rfl <| ?_
    refine w0 rfl rfl rfl (S0.fieldAddr rfl) rfl <| ?_
    refine w0 rfl rfl rfl (S0.load (v := .int .i64 x.1) rfl g0) rfl <| ?_
    refine wcd rfl rfl rfl rfl (S1.callF rfl (rinI_spec x.1 0 1099511627776) take0) rfl ?_
    refine w0 rfl rfl rfl (S0.not rfl) rfl <| w0 rfl rfl rfl (S0.move rfl) rfl <| ?_
    first | refine wcsP (t := 17) rfl (fun h2 => ?_) (fun h2 => ?_) | refine wcsN (t := 17) rfl (fun h2 => ?_) (fun h2 => ?_) | refine wcs (t := 17) rfl (fun h2 => ?_) (fun h2 => ?_)
    · rw [h2] at hr
      refine wF rfl rfl rfl rfl <| wF rfl rfl rfl rfl <| wF rfl rfl rfl rfl <| wF rfl rfl rfl rfl <| wF rfl rfl rfl rfl <| wF rfl rfl rfl rfl <| wF rfl rfl rfl rfl <| w0 rfl rfl rfl (S0.pickT rfl rfl) rfl <| w0 rfl rfl rfl (S0.move rfl) rfl <| wF rfl rfl rfl rfl <| wF rfl rfl rfl rfl <| wF rfl rfl rfl rfl <| wF rfl rfl rfl rfl <| wF rfl rfl rfl rfl <| wF rfl rfl rfl rfl <| wF rfl rfl rfl rfl <| wF rfl rfl rfl rfl <| wF rfl rfl rfl rfl <| wF rfl rfl rfl rfl <| wF rfl rfl rfl rfl <| wF rfl rfl rfl rfl <| wF rfl rfl rfl rfl <| wF rfl rfl rfl rfl <| wF rfl rfl rfl rfl <| wF rfl rfl rfl rfl <| w0 rfl rfl rfl (S0.pickT rfl rfl) rfl <| wE <| WP.condT rfl <| WP.seq <| WP.region <| v0 (S0.assign rfl) rfl <| vE <| WP.ret <| ?_
      refine r1 rfl rfl ⟨?_, rfl⟩
      simp [sortedM, hr]
    · refine w0 rfl rfl rfl (S0.move rfl) rfl <| w0 rfl rfl rfl (S0.move rfl) rfl <| ?_
      refine w0 rfl rfl rfl (S0.indexN (k := 2) rfl rfl hlt) rfl <| ?_
      refine w0 rfl rfl rfl (S0.fieldAddr rfl) rfl <| ?_
      refine w0 rfl rfl rfl (S0.load (v := .int .i64 x.2) rfl g1) rfl <| ?_
      refine wcd rfl rfl rfl rfl (S1.callF rfl (rinI_spec x.2 1 1099511627776) take0) rfl ?_
      refine w0 rfl rfl rfl (S0.not rfl) rfl <| w0 rfl rfl rfl (S0.pickF rfl rfl) rfl <| w0 rfl rfl rfl (S0.move rfl) rfl <| ?_
      first | refine wcsP (t := 26) rfl (fun h3 => ?_) (fun h3 => ?_) | refine wcsN (t := 26) rfl (fun h3 => ?_) (fun h3 => ?_) | refine wcs (t := 26) rfl (fun h3 => ?_) (fun h3 => ?_)
      · rw [h3] at hr
        refine wF rfl rfl rfl rfl <| wF rfl rfl rfl rfl <| wF rfl rfl rfl rfl <| wF rfl rfl rfl rfl <| wF rfl rfl rfl rfl <| wF rfl rfl rfl rfl <| wF rfl rfl rfl rfl <| wF rfl rfl rfl rfl <| wF rfl rfl rfl rfl <| wF rfl rfl rfl rfl <| wF rfl rfl rfl rfl <| wF rfl rfl rfl rfl <| wF rfl rfl rfl rfl <| wF rfl rfl rfl rfl <| wF rfl rfl rfl rfl <| wF rfl rfl rfl rfl <| w0 rfl rfl rfl (S0.pickT rfl rfl) rfl <| wE <| WP.condT rfl <| WP.seq <| WP.region <| v0 (S0.assign rfl) rfl <| vE <| WP.ret <| ?_
        refine r1 rfl rfl ⟨?_, rfl⟩
        simp [sortedM, hr]
      · rw [h2, h3, Bool.false_or, Bool.false_or] at hr
        have hx0 : 0 ≤ x.1 := by
          have : inI x.1 0 1099511627776 = true := by simpa using h2
          simp [inI] at this; exact this.1
        refine w0 rfl rfl rfl (S0.move rfl) rfl <| w0 rfl rfl rfl (S0.cmp rfl rfl rfl) rfl <| w0 rfl rfl rfl (S0.move rfl) rfl <| ?_
        first | refine wcsP (t := 29) rfl (fun h4 => ?_) (fun h4 => ?_) | refine wcsN (t := 29) rfl (fun h4 => ?_) (fun h4 => ?_) | refine wcs (t := 29) rfl (fun h4 => ?_) (fun h4 => ?_)
        · obtain ⟨k, rfl⟩ : ∃ k', k = k' + 1 := ⟨k - 1, by omega⟩
          have hlt0 : k < l.length := by omega
          have hy : l[k]? = some l[k] := by simp [hlt0]
          generalize l[k] = y at hy
          have ela : last = y.1 := hla y (by omega) (by simpa using hy)
          have g2 := flat_get enM_len sp1 l k 0 y hy (by decide)
          refine w0 rfl rfl rfl (S0.move rfl) rfl <| w0 rfl rfl rfl (S0.move rfl) rfl <| w0 rfl rfl rfl (S0.ari rfl rfl rfl (wrap_i64 (by omega))) rfl <| ?_
          rw [show ((k + 1 : Nat) : Int) - 1 = (k : Int) by omega]
          refine w0 rfl rfl rfl (S0.indexN (k := 2) rfl rfl hlt0) rfl <| ?_
          refine w0 rfl rfl rfl (S0.fieldAddr rfl) rfl <| ?_
          refine w0 rfl rfl rfl (S0.load (v := .int .i64 y.1) rfl g2) rfl <| ?_
          refine w0 rfl rfl rfl (S0.move rfl) rfl <| w0 rfl rfl rfl (S0.move rfl) rfl <| ?_
          refine w0 rfl rfl rfl (S0.indexN (k := 2) rfl rfl hlt) rfl <| ?_
          refine w0 rfl rfl rfl (S0.fieldAddr rfl) rfl <| ?_
          refine w0 rfl rfl rfl (S0.load (v := .int .i64 x.1) rfl g0) rfl <| ?_
          refine w0 rfl rfl rfl (S0.cmp rfl rfl rfl) rfl <| w0 rfl rfl rfl (S0.pickT rfl rfl) rfl <| w0 rfl rfl rfl (S0.pickF rfl rfl) rfl <| wE <| ?_
          first | refine WP.condP rfl (fun h5 => ?_) (fun h5 => ?_) | refine WP.condN rfl (fun h5 => ?_) (fun h5 => ?_) | refine WP.cond rfl (fun h5 => ?_) (fun h5 => ?_)
          · rw [ela, decide_eq_true (show x.1 ≤ y.1 by omega)] at hr
            refine WP.seq <| WP.region <| v0 (S0.assign rfl) rfl <| vE <| WP.ret <| ?_
            refine r1 rfl rfl ⟨?_, rfl⟩
            simp [sortedM, hr]
          · rw [ela, decide_eq_false (show ¬ x.1 ≤ y.1 by omega)] at hr
            refine WP.skip <| WP.region <| v0 (S0.move rfl) rfl <| v0 (S0.ari rfl rfl rfl (wrap_i64 (by omega))) rfl <| v0 (S0.assign rfl) rfl <| vE <| ?_
            exact ⟨(k + 1 + 1, x.1), (by first | exact ⟨hlt, by simpa using hr, by omega, fun h => by omega, fun z _ hz2 => by rw [Nat.add_sub_cancel, hx] at hz2; cases hz2; rfl⟩ | (dsimp only; exact ⟨hlt, by simpa using hr, by omega, fun h => by omega, fun z _ hz2 => by rw [Nat.add_sub_cancel, hx] at hz2; cases hz2; rfl⟩)), (show l.length - (k + 1 + 1) < l.length - (k + 1) by omega), ⟨⟨rfl, rfl, trivial⟩, rfl, rfl⟩, ⟨_, (take1 at0 take0)⟩⟩
        · have ek : k = 0 := by omega
          have el := hz ek
          subst ek
          rw [el, decide_eq_false (show ¬ x.1 ≤ -1 by omega)] at hr
          refine wF rfl rfl rfl rfl <| wF rfl rfl rfl rfl <| wF rfl rfl rfl rfl <| wF rfl rfl rfl rfl <| wF rfl rfl rfl rfl <| wF rfl rfl rfl rfl <| wF rfl rfl rfl rfl <| wF rfl rfl rfl rfl <| wF rfl rfl rfl rfl <| wF rfl rfl rfl rfl <| wF rfl rfl rfl rfl <| wF rfl rfl rfl rfl <| w0 rfl rfl rfl (S0.pickF rfl rfl) rfl <| w0 rfl rfl rfl (S0.pickF rfl rfl) rfl <| wE <| WP.condF rfl <| WP.skip <| WP.region <| v0 (S0.move rfl) rfl <| v0 (S0.ari rfl rfl rfl (wrap_i64 (by omega))) rfl <| v0 (S0.assign rfl) rfl <| vE <| ?_
          exact ⟨(0 + 1, x.1), (by first | exact ⟨hlt, by simpa using hr, by omega, fun h => by omega, fun z _ hz2 => by rw [Nat.add_sub_cancel, hx] at hz2; cases hz2; rfl⟩ | (dsimp only; exact ⟨hlt, by simpa using hr, by omega, fun h => by omega, fun z _ hz2 => by rw [Nat.add_sub_cancel, hx] at hz2; cases hz2; rfl⟩)), (show l.length - (0 + 1) < l.length - 0 by omega), ⟨⟨rfl, rfl, trivial⟩, rfl, rfl⟩, ⟨_, (take1 at0 take0)⟩⟩
  · have e : k = l.length := by omega
    rw [e, List.drop_length, risM] at hr
    refine WP.exit <| WP.seq <| WP.region <| v0 (S0.move rfl) rfl <| v0 (S0.lenSl rfl) rfl <| v0 (S0.cmp rfl rfl rfl) rfl <| v0 (S0.assign rfl) rfl <| vE <| WP.ret <| ?_
    refine r1 rfl rfl ⟨?_, rfl⟩
    rw [sortedM, hr]; congr 1; simp; omega
theorem rmarks_spec {v : Value} {l : List MkT} {row : List Blk} (hs : IsSl 63 2 v (l.flatMap enM) row) (hl : l.length ≤ 1000000) : FN Tryz.prog 74 [v] [row] (is (sv (marksB l)) [row]) := by
  have hs0 := hs
  obtain ⟨a, cap, rfl, hcap, hrow⟩ := IsSl.elems (k := 1) enM_len hs
  refine FN.intro 36 [(0, .slice a l.length cap)] Tryz.func74 rfl (enters Tryz.func74 (by kernel_rfl) rfl) Tryz.ntmps74 rfl rfl ?_
  refine WP.seq <| WP.region <| v0 (S0.assign rfl) rfl <| vE <| WP.seq <| WP.seq <| WP.region <| v0 (S0.move rfl) rfl <| ?_
  refine vcd (S1.callF rfl (rsorted_spec hs0 hl) (take1 at0 take0)) rfl ?_
  refine v0 (S0.not rfl) rfl <| vE <| ?_
  cases hso : sortedM l with
  | false =>
    refine WP.condTh rfl ((by simp)) ?_
    refine WP.seq <| WP.region <| v0 (S0.assign rfl) rfl <| vE <| WP.ret <| ?_
    refine r1 rfl rfl ⟨?_, rfl⟩
    simp [marksB, hso]
  | true =>
    have h32 : l.length ≤ 32 := by simp [sortedM] at hso; exact hso.2
    have hri : risM (-1) l = true := by simp [sortedM] at hso; exact hso.1
    have hmem := risM_mem (by omega) hri
    have hpl := putV_le l.length
    refine WP.condFh rfl ((by simp)) ?_
    refine WP.skip <| WP.seq <| WP.region <| v0 (S0.move rfl) rfl <| v0 (S0.lenSl rfl) rfl <| v0 (S0.convI rfl (wrap_u64 (by omega))) rfl <| ?_
    refine vcd (S1.callF rfl (rput_spec (n := l.length) (by omega)) take0) rfl ?_
    rw [show putV l.length = putV l.length ++ (l.take 0).flatMap (fun m => putV m.1.toNat ++ putV m.2.toNat) by simp]
    refine v0 (S0.assign rfl) rfl <| vE <| WP.seq <| WP.seq <| WP.region <| v0 (S0.assign rfl) rfl <| vE <| WP.block <| ?_
    refine WP.loop (fun k : Nat => k ≤ l.length) (fun k : Nat => [(0, .slice a l.length cap), (3, sv (putV l.length ++ (l.take k).flatMap fun m => putV m.1.toNat ++ putV m.2.toNat)), (4, .int .i64 (k : Int))]) (fun k : Nat => [row]) (fun k : Nat => l.length - k) (0) (Nat.zero_le _) ⟨rfl, rfl, rfl, trivial⟩ ⟨_, (take1 at0 take0)⟩ (fun k hinv => ?_)
    have hml := marksT_le h32 k
    refine WP.seq <| WP.seq <| WP.region <| v0 (S0.move rfl) rfl <| v0 (S0.move rfl) rfl <| v0 (S0.lenSl rfl) rfl <| v0 (S0.cmp rfl rfl rfl) rfl <| vE <| ?_
    first | refine WP.condP rfl (fun h1 => ?_) (fun h1 => ?_) | refine WP.condN rfl (fun h1 => ?_) (fun h1 => ?_) | refine WP.cond rfl (fun h1 => ?_) (fun h1 => ?_)
    · have hlt : k < l.length := by omega
      rcases hrow with ⟨e, -⟩ | ⟨b1, sp1, rfl, rfl, hsp1⟩
      · rw [e] at hlt; simp at hlt
      have hx : l[k]? = some l[k] := by simp [hlt]
      have hxm := hmem _ (List.getElem_mem hlt)
      generalize l[k] = x at hx hxm
      have hst : (l.take (k + 1)).flatMap (fun m => putV m.1.toNat ++ putV m.2.toNat) = (l.take k).flatMap (fun m => putV m.1.toNat ++ putV m.2.toNat) ++ (putV x.1.toNat ++ putV x.2.toNat) := by
        rw [List.take_add_one, hx]; simp
      have e1 : x.1 = ((x.1.toNat : Nat) : Int) := by omega
      have e2 : x.2 = ((x.2.toNat : Nat) : Int) := by omega
      have g0 : (l.flatMap enM ++ sp1)[k * 2 + 0]? = some (.int .i64 ((x.1.toNat : Nat) : Int)) := by rw [← e1]; exact flat_get enM_len sp1 l k 0 x hx (by decide)
      have g1 : (l.flatMap enM ++ sp1)[k * 2 + 1]? = some (.int .i64 ((x.2.toNat : Nat) : Int)) := by rw [← e2]; exact flat_get enM_len sp1 l k 1 x hx (by decide)
      have h1 := putV_le x.1.toNat
      have h2 := putV_le x.2.toNat
      refine WP.skip <| WP.seq <| WP.block <| WP.drawP [(0, none), (1, none), (2, none), (3, none), (4, none), (5, none), (6, none), (8, none), (9, none), (10, none), (11, none), (12, none), (13, none), (7, none), (14, none), (15, none), (16, none), (17, none)] mixed (by kernel_rfl) (by kernel_rfl) (by kernel_rfl) (take1 at0 take0) <| w0 rfl rfl rfl (S0.move rfl) rfl <| w0 rfl rfl rfl (S0.move rfl) rfl <| w0 rfl rfl rfl (S0.move rfl) rfl <| ?_
      refine w0 rfl rfl rfl (S0.indexN (k := 2) rfl rfl hlt) rfl <| ?_
      refine w0 rfl rfl rfl (S0.fieldAddr rfl) rfl <| ?_
      refine w0 rfl rfl rfl (S0.load rfl g0) rfl <| ?_
      refine w0 rfl rfl rfl (S0.convI rfl (wrap_u64 (by omega))) rfl <| w0 rfl rfl rfl (S0.move rfl) rfl <| w0 rfl rfl rfl (S0.move rfl) rfl <| ?_
      refine w0 rfl rfl rfl (S0.indexN (k := 2) rfl rfl hlt) rfl <| ?_
      refine w0 rfl rfl rfl (S0.fieldAddr rfl) rfl <| ?_
      refine w0 rfl rfl rfl (S0.load rfl g1) rfl <| ?_
      refine w0 rfl rfl rfl (S0.convI rfl (wrap_u64 (by omega))) rfl <| ?_
      refine wcd rfl rfl rfl rfl (S1.callF rfl (rput_spec (n := x.1.toNat) (by omega)) take0) rfl ?_
      refine wcd rfl rfl rfl rfl (S1.callF rfl (rput_spec (n := x.2.toNat) (by omega)) take0) rfl ?_
      refine w0 rfl rfl rfl (S0.addS rfl rfl (by omega)) rfl <| ?_
      refine w0 rfl rfl rfl (S0.addS rfl rfl (by simp only [List.length_append]; omega)) rfl <| ?_
      refine w0 rfl rfl rfl (S0.assign rfl) rfl <| wE <| WP.region <| v0 (S0.move rfl) rfl <| v0 (S0.ari rfl rfl rfl (wrap_i64 (by omega))) rfl <| v0 (S0.assign rfl) rfl <| vE <| ?_
      rw [List.append_assoc, ← hst]
      exact ⟨k + 1, (by first | exact hlt | (dsimp only; exact hlt)), (show l.length - (k + 1) < l.length - k by omega), ⟨⟨rfl, rfl, rfl, trivial⟩, rfl, rfl⟩, ⟨_, (take1 at0 take0)⟩⟩
    · have e : k = l.length := by omega
      rw [e, List.take_length]
      refine WP.exit <| WP.seq <| WP.region <| v0 (S0.move rfl) rfl <| v0 (S0.assign rfl) rfl <| vE <| WP.ret <| ?_
      refine r1 rfl rfl ⟨?_, rfl⟩
      simp [marksB, hso]
end Go.Proofs.YtjpjebfodhbdfaaGreatDoor
namespace Go.Proofs.YtjpjebfodhbdfaaGreatDoor
open Go
def numsV (s : Str) (a : Nat) : Nat → List Int × Nat × Int
  | 0 => ([], a, 0)
  | k + 1 =>
    let z := numsV s a k
    if z.2.2 ≠ 0 then z else
      let x := rdN s z.2.1 0
      if x.2.2 ≠ 0 then (z.1, z.2.1, x.2.2) else (z.1 ++ [x.1], x.2.1, 0)
theorem numsV_step (s : Str) (a k : Nat) : numsV s a (k + 1) = if (numsV s a k).2.2 ≠ 0 then numsV s a k else if (rdN s (numsV s a k).2.1 0).2.2 ≠ 0 then ((numsV s a k).1, (numsV s a k).2.1, (rdN s (numsV s a k).2.1 0).2.2) else ((numsV s a k).1 ++ [(rdN s (numsV s a k).2.1 0).1], (rdN s (numsV s a k).2.1 0).2.1, 0) := rfl
theorem rdN_bad {s : Str} {a : Nat} {bad : Int} (h : bad ≠ 0) : rdN s a bad = (-1, a, bad) := by rw [rdN, if_pos h]
theorem numsV_stay {s : Str} {a k : Nat} (h : (numsV s a k).2.2 ≠ 0) : numsV s a (k + 1) = numsV s a k := by rw [numsV_step, if_pos h]
theorem nums_rdM (s : Str) (a : Nat) : ∀ k, (rdM s a 0 k).2.2 = (numsV s a (2 * k)).2.2 ∧ ((numsV s a (2 * k)).2.2 = 0 → (rdM s a 0 k).2.1 = (numsV s a (2 * k)).2.1 ∧ (numsV s a (2 * k)).1 = (rdM s a 0 k).1.flatMap fun m => [m.1, m.2])
  | 0 => ⟨rfl, fun _ => ⟨rfl, rfl⟩⟩
  | k + 1 => by
    obtain ⟨i1, i2⟩ := nums_rdM s a k
    have e2 : 2 * (k + 1) = 2 * k + 1 + 1 := by omega
    have er : rdM s a 0 (k + 1) = ((rdM s a 0 k).1 ++ [((rdN s (rdM s a 0 k).2.1 (rdM s a 0 k).2.2).1, (rdN s (rdN s (rdM s a 0 k).2.1 (rdM s a 0 k).2.2).2.1 (rdN s (rdM s a 0 k).2.1 (rdM s a 0 k).2.2).2.2).1)], (rdN s (rdN s (rdM s a 0 k).2.1 (rdM s a 0 k).2.2).2.1 (rdN s (rdM s a 0 k).2.1 (rdM s a 0 k).2.2).2.2).2) := rfl
    rw [e2]
    by_cases hb : (numsV s a (2 * k)).2.2 = 0
    · obtain ⟨p1, p2⟩ := i2 hb
      rw [hb] at i1
      rw [er, i1, p1]
      by_cases hx : (rdN s (numsV s a (2 * k)).2.1 0).2.2 = 0
      · have en : numsV s a (2 * k + 1) = ((numsV s a (2 * k)).1 ++ [(rdN s (numsV s a (2 * k)).2.1 0).1], (rdN s (numsV s a (2 * k)).2.1 0).2.1, 0) := by rw [numsV_step, if_neg (by simp [hb]), if_neg (by simp [hx])]
        rw [hx]
        generalize rdN s (numsV s a (2 * k)).2.1 0 = X at en hx
        rw [numsV_step, en, if_neg (by simp)]
        dsimp only
        by_cases hy : (rdN s X.2.1 0).2.2 = 0
        · rw [if_neg (by simp [hy])]
          exact ⟨hy, fun _ => ⟨rfl, by rw [p2]; simp⟩⟩
        · rw [if_pos hy]
          exact ⟨rfl, fun h => absurd h hy⟩
      · have en : numsV s a (2 * k + 1) = ((numsV s a (2 * k)).1, (numsV s a (2 * k)).2.1, (rdN s (numsV s a (2 * k)).2.1 0).2.2) := by rw [numsV_step, if_neg (by simp [hb]), if_pos hx]
        have hs : (numsV s a (2 * k + 1)).2.2 ≠ 0 := by rw [en]; exact hx
        rw [numsV_stay hs, en, rdN_bad hx]
        exact ⟨rfl, fun h => absurd h hx⟩
    · have hs1 : numsV s a (2 * k + 1) = numsV s a (2 * k) := numsV_stay hb
      have hs2 : numsV s a (2 * k + 1 + 1) = numsV s a (2 * k) := by rw [numsV_stay (by rw [hs1]; exact hb), hs1]
      rw [hs2, er, rdN_bad (by rw [i1]; exact hb)]
      dsimp only
      rw [rdN_bad (by rw [i1]; exact hb)]
      exact ⟨i1, fun h => absurd h hb⟩
theorem numsV_le {s : Str} {a : Nat} (ha : a ≤ s.length) : ∀ k, (numsV s a k).2.1 ≤ s.length
  | 0 => ha
  | k + 1 => by
    have ih := numsV_le ha k
    have hn := rdN_le (bad := 0) ih
    rw [numsV_step]
    by_cases h1 : (numsV s a k).2.2 ≠ 0
    · rw [if_pos h1]; exact ih
    · rw [if_neg h1]
      by_cases h2 : (rdN s (numsV s a k).2.1 0).2.2 ≠ 0
      · rw [if_pos h2]; exact ih
      · rw [if_neg h2]; exact hn
theorem numsV_len (s : Str) (a : Nat) : ∀ k, (numsV s a k).1.length ≤ k ∧ ((numsV s a k).2.2 = 0 → (numsV s a k).1.length = k)
  | 0 => ⟨Nat.le_refl _, fun _ => rfl⟩
  | k + 1 => by
    obtain ⟨i1, i2⟩ := numsV_len s a k
    rw [numsV_step]
    by_cases h1 : (numsV s a k).2.2 ≠ 0
    · rw [if_pos h1]; exact ⟨by omega, fun h => absurd h h1⟩
    · rw [if_neg h1]
      by_cases h2 : (rdN s (numsV s a k).2.1 0).2.2 ≠ 0
      · rw [if_pos h2]; exact ⟨by simp only; omega, fun h => absurd h h2⟩
      · rw [if_neg h2]
        have := i2 (by simpa using h1)
        exact ⟨by simp; omega, fun _ => by simp [this]⟩
theorem numsV_stays {s : Str} {a j : Nat} (h : (numsV s a j).2.2 ≠ 0) : ∀ d, numsV s a (j + d) = numsV s a j
  | 0 => rfl
  | d + 1 => by
    have ih := numsV_stays h d
    rw [show j + (d + 1) = (j + d) + 1 by omega, numsV_stay (by rw [ih]; exact h), ih]
theorem nums_spec {s : Str} {a k : Nat} (hs : s.length ≤ 1000000) (ha : a ≤ s.length) (hk : k ≤ 1000) : FN Tryz.prog 127 [sv s, .int .i64 (a : Int), .int .i64 (k : Int)] []
    (fun u h => ∃ v row, u = .tuple ⟨[v, .int .i64 (if (numsV s a k).2.2 = 0 then ((numsV s a k).2.1 : Int) else 0), .int .i64 (numsV s a k).2.2]⟩ ∧ IsSl 3 1 v (ints (if (numsV s a k).2.2 = 0 then (numsV s a k).1 else [])) row ∧ h = [row]) := by
  refine FN.intro 40 [(0, sv s), (1, .int .i64 (a : Int)), (2, .int .i64 (k : Int))] Tryz.func127 rfl (enters Tryz.func127 (by kernel_rfl) rfl) Tryz.ntmps127 rfl rfl ?_
  refine WP.seq <| WP.region <| v0 (S0.assign rfl) rfl <| v0 (S0.assign rfl) rfl <| v0 (S0.assign rfl) rfl <| vE <| WP.seq <| WP.region <| vnv (S1.buildSlice rfl (qs := []) rfl rfl) rfl fun b14 => v0 (S0.assign rfl) rfl <| vE <| WP.seq <| WP.seq <| WP.region <| v0 (S0.assign rfl) rfl <| vE <| WP.block <| ?_
  refine WP.loop (fun st : Nat × Value × List Blk => st.1 ≤ k ∧ (numsV s a st.1).2.2 = 0 ∧ IsSl 3 1 st.2.1 (ints (numsV s a st.1).1) st.2.2) (fun st : Nat × Value × List Blk => [(0, sv s), (1, .int .i64 ((numsV s a st.1).2.1 : Int)), (2, .int .i64 (k : Int)), (9, st.2.1), (10, .int .i64 (st.1 : Int))]) (fun st : Nat × Value × List Blk => [st.2.2]) (fun st : Nat × Value × List Blk => k - st.1) ((0, _, [(b14, .cells ⟨[]⟩ 3 (0, 0))])) (⟨Nat.zero_le _, rfl, IsSl.row (n := 0) (c := 0) (l := []) (sp := []) rfl rfl (Nat.le_refl _)⟩) ⟨rfl, rfl, rfl, rfl, rfl, trivial⟩ ⟨_, (take1 at0 take0)⟩ (fun st hinv => ?_)
  obtain ⟨i, ov, orow⟩ := st
  obtain ⟨hi, he, hos⟩ := hinv
  dsimp only at hi he hos ⊢
  have hp := numsV_le ha i
  have hln := (numsV_len s a i).2 he
  have hst := numsV_step s a i
  rw [if_neg (by simp [he])] at hst
  refine WP.seq <| WP.seq <| WP.region <| v0 (S0.move rfl) rfl <| v0 (S0.move rfl) rfl <| v0 (S0.cmp rfl rfl rfl) rfl <| vE <| ?_
  first | refine WP.condP rfl (fun h1 => ?_) (fun h1 => ?_) | refine WP.condN rfl (fun h1 => ?_) (fun h1 => ?_) | refine WP.cond rfl (fun h1 => ?_) (fun h1 => ?_)
  · have hlt : i < k := by omega
    generalize (numsV s a i).2.1 = P at hp hst
    refine WP.skip <| WP.seq <| WP.block <| WP.seq <| WP.region <| v0 (S0.move rfl) rfl <| v0 (S0.move rfl) rfl <| ?_
    refine vcd (S1.callF rfl (rget_spec hs (by omega)) take0) rfl ?_
    refine v0 (S0.move rfl) rfl <| v0 (S0.extract rfl rfl) rfl <| v0 (S0.extract rfl rfl) rfl <| v0 (S0.extract rfl rfl) rfl <| v0 (S0.assign rfl) rfl <| v0 (S0.assign rfl) rfl <| v0 (S0.assign rfl) rfl <| vE <| WP.seq <| WP.seq <| WP.region <| v0 (S0.move rfl) rfl <| v0 (S0.cmp rfl rfl rfl) rfl <| vE <| ?_
    first | refine WP.condP rfl (fun h2 => ?_) (fun h2 => ?_) | refine WP.condN rfl (fun h2 => ?_) (fun h2 => ?_) | refine WP.cond rfl (fun h2 => ?_) (fun h2 => ?_)
    · have hx : (rdN s P 0).2.2 = (getV s P).2.2 := by rw [rdN, if_neg (by decide), if_pos h2]
      rw [if_pos (by rw [hx]; exact h2)] at hst
      have hbad : (numsV s a (i + 1)).2.2 ≠ 0 := by rw [hst, hx]; exact h2
      have hend : numsV s a k = numsV s a (i + 1) := by
        have := numsV_stays hbad (k - (i + 1))
        rwa [show i + 1 + (k - (i + 1)) = k by omega] at this
      have hb2 : (numsV s a k).2.2 = (getV s P).2.2 := by rw [hend, hst, hx]
      refine WP.seq <| WP.region <| v0 (S0.move rfl) rfl <| v0 (S0.assign rfl) rfl <| v0 (S0.assign rfl) rfl <| v0 (S0.assign rfl) rfl <| vE <| WP.ret <| ?_
      refine Leaves.drop (h' := [[]]) (k := [orow]) (by simp) ?_
      refine r3 rfl rfl rfl rfl ?_
      exact ⟨_, [], by rw [if_neg (by rw [hb2]; exact h2), hb2], by rw [if_neg (by rw [hb2]; exact h2)]; exact IsSl.nil, rfl⟩
    · have h2' : ¬ (getV s P).2.2 ≠ 0 := by simpa using h2
      obtain ⟨n, q, hg, hn, hq, hpq, -⟩ := getV_ok (by omega : (getV s P).2.2 = 0)
      have q1 : (getV s P).1 = (n : Int) := by rw [hg]
      have q2 : (getV s P).2.1 = ((P + q : Nat) : Int) := by rw [hg]
      have hx : rdN s P 0 = (if 1099511627777 < (n : Int) then 1099511627777 else (n : Int), P + q, 0) := by rw [rdN, if_neg (by decide), if_neg h2', q1, q2, Int.toNat_natCast]
      rw [hx, if_neg (by simp)] at hst
      dsimp only at hst
      rw [q1, q2]
      refine WP.skip <| ?_
      refine WP.cutS (fun m : Nat => (m : Int) = (if 1099511627777 < (n : Int) then 1099511627777 else (n : Int))) (fun m : Nat => [(0, sv s), (2, .int .i64 (k : Int)), (9, ov), (10, .int .i64 (i : Int)), (11, .int .u64 (m : Int)), (12, .int .i64 ((P + q : Nat) : Int))]) (fun m : Nat => [orow]) ?_ (fun m hinv => ?_)
      · refine WP.seq <| WP.region <| v0 (S0.move rfl) rfl <| v0 (S0.cmp rfl rfl rfl) rfl <| vE <| ?_
        first | refine WP.condP rfl (fun h3 => ?_) (fun h3 => ?_) | refine WP.condN rfl (fun h3 => ?_) (fun h3 => ?_) | refine WP.cond rfl (fun h3 => ?_) (fun h3 => ?_)
        · refine WP.region <| v0 (S0.assign rfl) rfl <| vE <| ?_
          exact ⟨1099511627777, (by first | exact (by split <;> omega) | (dsimp only; exact (by split <;> omega))), ⟨⟨rfl, rfl, rfl, rfl, rfl, rfl, trivial⟩, rfl, rfl⟩, ⟨_, (take1 at0 take0)⟩⟩
        · refine WP.skip <| ?_
          exact ⟨n, (by first | exact (by rw [if_neg (by omega)]) | (dsimp only; exact (by rw [if_neg (by omega)]))), ⟨⟨rfl, rfl, rfl, rfl, rfl, rfl, trivial⟩, rfl, rfl⟩, ⟨_, (take1 at0 take0)⟩⟩
      · have hm := hinv
        have hml : m ≤ 1099511627777 := by split at hm <;> omega
        rw [← hm] at hst
        refine WP.seq <| WP.region <| v0 (S0.move rfl) rfl <| v0 (S0.move rfl) rfl <| v0 (S0.convI rfl (wrap_i64 (by omega))) rfl <| vnv (S1.buildSlice rfl (qs := [(0, _)]) rfl rfl) rfl fun b35 => ?_
        refine ve (S1.appendL rfl hos rfl rfl (atS at0) rfl rfl (by simp [ints, hln]; omega)) rfl ?_
        rintro v2 _ ⟨row2, hs2, rfl⟩
        have hP : (numsV s a (i + 1)).2.1 = P + q := by rw [hst]
        have hE : (numsV s a (i + 1)).2.2 = 0 := by rw [hst]
        have hV : (numsV s a (i + 1)).1 = (numsV s a i).1 ++ [(m : Int)] := by rw [hst]
        rw [← hP]
        refine v0 (S0.assign rfl) rfl <| vE <| WP.region <| v0 (S0.move rfl) rfl <| v0 (S0.assign rfl) rfl <| vE <| WP.region <| v0 (S0.move rfl) rfl <| v0 (S0.ari rfl rfl rfl (wrap_i64 (by omega))) rfl <| v0 (S0.assign rfl) rfl <| vE <| ?_
        exact ⟨(i + 1, v2, row2), (by first | exact ⟨hlt, hE, by rw [hV]; simpa [ints] using hs2⟩ | (dsimp only; exact ⟨hlt, hE, by rw [hV]; simpa [ints] using hs2⟩)), (show k - (i + 1) < k - i by omega), ⟨⟨rfl, rfl, rfl, rfl, rfl, trivial⟩, rfl, rfl⟩, ⟨_, (take1 at0 take0)⟩⟩
  · have e : i = k := by omega
    subst e
    refine WP.exit <| WP.seq <| WP.region <| v0 (S0.move rfl) rfl <| v0 (S0.move rfl) rfl <| v0 (S0.assign rfl) rfl <| v0 (S0.assign rfl) rfl <| v0 (S0.assign rfl) rfl <| vE <| WP.ret <| ?_
    refine r3 rfl rfl rfl rfl ?_
    exact ⟨ov, orow, by rw [if_pos he, he], by rw [if_pos he]; exact hos, rfl⟩
end Go.Proofs.YtjpjebfodhbdfaaGreatDoor
namespace Go.Proofs.YtjpjebfodhbdfaaGreatDoor
open Go
theorem pair_get {Z : List MkT} {k : Nat} {x : MkT} (hx : Z[k]? = some x) : (Z.flatMap fun m => [m.1, m.2])[2 * k]? = some x.1 ∧ (Z.flatMap fun m => [m.1, m.2])[2 * k + 1]? = some x.2 := by
  induction Z generalizing k with
  | nil => simp at hx
  | cons z Z ih =>
    cases k with
    | zero => simp at hx; subst hx; simp
    | succ k =>
      have := ih (k := k) (by simpa using hx)
      rw [show 2 * (k + 1) = 2 * k + 1 + 1 by omega]
      simpa using this
theorem pair_len (Z : List MkT) : (Z.flatMap fun m => [m.1, m.2]).length = 2 * Z.length := by
  induction Z with
  | nil => rfl
  | cons z Z ih => simp only [List.flatMap_cons, List.length_append, List.length_cons, List.length_nil, ih]; omega
theorem rmcut_spec {s : Str} {a : Nat} (hs : s.length ≤ 1000000) (ha : a ≤ s.length) : FN Tryz.prog 92 [sv s, .int .i64 (a : Int)] [] (fun u h => ∃ v row, u = .tuple ⟨[v, .int .i64 (cutM s a).2.1, .int .i64 (cutM s a).2.2]⟩ ∧ IsSl 63 2 v ((cutM s a).1.flatMap enM) row ∧ h = [row]) := by
  have hc : cutM s a = if 32 < (rdN s a 0).1 then ([], 0, 2) else if (rdM s (rdN s a 0).2.1 (rdN s a 0).2.2 (rdN s a 0).1.toNat).2.2 ≠ 0 then ([], 0, (rdM s (rdN s a 0).2.1 (rdN s a 0).2.2 (rdN s a 0).1.toNat).2.2) else if sortedM (rdM s (rdN s a 0).2.1 (rdN s a 0).2.2 (rdN s a 0).1.toNat).1 = false then ([], 0, 4) else ((rdM s (rdN s a 0).2.1 (rdN s a 0).2.2 (rdN s a 0).1.toNat).1, ((rdM s (rdN s a 0).2.1 (rdN s a 0).2.2 (rdN s a 0).1.toNat).2.1 : Int), 0) := rfl
  refine FN.intro 65 [(0, sv s), (1, .int .i64 (a : Int))] Tryz.func92 rfl (enters Tryz.func92 (by kernel_rfl) rfl) Tryz.ntmps92 rfl rfl ?_
  refine WP.seq <| WP.region <| v0 (S0.assign rfl) rfl <| v0 (S0.assign rfl) rfl <| v0 (S0.assign rfl) rfl <| vE <| WP.seq <| WP.region <| v0 (S0.move rfl) rfl <| v0 (S0.move rfl) rfl <| ?_
  refine vcd (S1.callF rfl (rget_spec hs (by omega)) take0) rfl ?_
  refine v0 (S0.move rfl) rfl <| v0 (S0.extract rfl rfl) rfl <| v0 (S0.extract rfl rfl) rfl <| v0 (S0.extract rfl rfl) rfl <| v0 (S0.assign rfl) rfl <| v0 (S0.assign rfl) rfl <| v0 (S0.assign rfl) rfl <| vE <| WP.seq <| WP.seq <| WP.region <| v0 (S0.move rfl) rfl <| v0 (S0.cmp rfl rfl rfl) rfl <| vE <| ?_
  first | refine WP.condP rfl (fun h1 => ?_) (fun h1 => ?_) | refine WP.condN rfl (fun h1 => ?_) (fun h1 => ?_) | refine WP.cond rfl (fun h1 => ?_) (fun h1 => ?_)
  · have hx : rdN s a 0 = (-1, a, (getV s a).2.2) := by rw [rdN, if_neg (by decide), if_pos h1]
    rw [hx, if_neg (by simp)] at hc
    have hc2 : cutM s a = ([], 0, (getV s a).2.2) := by rw [hc]; exact if_pos h1
    refine WP.seq <| WP.region <| v0 (S0.move rfl) rfl <| v0 (S0.assign rfl) rfl <| v0 (S0.assign rfl) rfl <| v0 (S0.assign rfl) rfl <| vE <| WP.ret <| ?_
    refine Leaves.drop (h' := [[]]) (k := []) (by simp) ?_
    refine r3 rfl rfl rfl rfl ?_
    exact ⟨_, [], by rw [hc2], by rw [hc2]; exact IsSl.nil, rfl⟩
  · have h1' : ¬ (getV s a).2.2 ≠ 0 := by simpa using h1
    obtain ⟨n, q, hg, hn, hq, hpq, -⟩ := getV_ok (by omega : (getV s a).2.2 = 0)
    have q1 : (getV s a).1 = (n : Int) := by rw [hg]
    have q2 : (getV s a).2.1 = ((a + q : Nat) : Int) := by rw [hg]
    have hx : rdN s a 0 = (if 1099511627777 < (n : Int) then 1099511627777 else (n : Int), a + q, 0) := by rw [rdN, if_neg (by decide), if_neg h1', q1, q2, Int.toNat_natCast]
    rw [q1, q2]
    refine WP.skip <| WP.seq <| WP.seq <| WP.region <| v0 (S0.move rfl) rfl <| v0 (S0.cmp rfl rfl rfl) rfl <| vE <| ?_
    first | refine WP.condP rfl (fun h2 => ?_) (fun h2 => ?_) | refine WP.condN rfl (fun h2 => ?_) (fun h2 => ?_) | refine WP.cond rfl (fun h2 => ?_) (fun h2 => ?_)
    · have hc2 : cutM s a = ([], 0, 2) := by
        rw [hc, if_pos]
        rw [hx]; dsimp only; split <;> omega
      refine WP.seq <| WP.region <| v0 (S0.assign rfl) rfl <| v0 (S0.assign rfl) rfl <| v0 (S0.assign rfl) rfl <| vE <| WP.ret <| ?_
      refine Leaves.drop (h' := [[]]) (k := []) (by simp) ?_
      refine r3 rfl rfl rfl rfl ?_
      exact ⟨_, [], by rw [hc2], by rw [hc2]; exact IsSl.nil, rfl⟩
    · have hx2 : rdN s a 0 = ((n : Int), a + q, 0) := by rw [hx, if_neg (by omega)]
      rw [hx2, if_neg (by simp only; omega)] at hc
      dsimp only at hc
      rw [Int.toNat_natCast] at hc
      obtain ⟨e1, e2⟩ := nums_rdM s (a + q) n
      have hzl := rdM_len s (a + q) 0 n
      generalize rdM s (a + q) 0 n = Z at hc e1 e2 hzl
      refine WP.skip <| WP.seq <| WP.region <| v0 (S0.move rfl) rfl <| v0 (S0.move rfl) rfl <| v0 (S0.move rfl) rfl <| v0 (S0.convI rfl (wrap_i64 (by omega))) rfl <| v0 (S0.ari rfl rfl rfl (wrap_i64 (by omega))) rfl <| ?_
      rw [show (2 : Int) * (n : Int) = ((2 * n : Nat) : Int) by omega]
      refine vc (S1.callF rfl (nums_spec (k := 2 * n) hs hpq (by omega)) take0) rfl ?_
      rintro _ _ ⟨nv, nrow, rfl, hns, rfl⟩
      refine app ?_
      rw [← e1]
      rw [← e1] at hns e2
      refine v0 (S0.move rfl) rfl <| v0 (S0.extract rfl rfl) rfl <| v0 (S0.extract rfl rfl) rfl <| v0 (S0.extract rfl rfl) rfl <| v0 (S0.assign rfl) rfl <| v0 (S0.assign rfl) rfl <| v0 (S0.assign rfl) rfl <| vE <| WP.seq <| WP.seq <| WP.region <| v0 (S0.move rfl) rfl <| v0 (S0.cmp rfl rfl rfl) rfl <| vE <| ?_
      first | refine WP.condP rfl (fun h3 => ?_) (fun h3 => ?_) | refine WP.condN rfl (fun h3 => ?_) (fun h3 => ?_) | refine WP.cond rfl (fun h3 => ?_) (fun h3 => ?_)
      · have hc2 : cutM s a = ([], 0, Z.2.2) := by rw [hc, if_pos h3]
        refine WP.seq <| WP.region <| v0 (S0.move rfl) rfl <| v0 (S0.assign rfl) rfl <| v0 (S0.assign rfl) rfl <| v0 (S0.assign rfl) rfl <| vE <| WP.ret <| ?_
        refine Leaves.drop (h' := [[]]) (k := [nrow]) (by simp) ?_
        refine r3 rfl rfl rfl rfl ?_
        exact ⟨_, [], by rw [hc2], by rw [hc2]; exact IsSl.nil, rfl⟩
      · have h3' : Z.2.2 = 0 := by omega
        obtain ⟨p1, p2⟩ := e2 h3'
        rw [if_neg (by simp [h3'])] at hc
        rw [if_pos h3', p2] at hns
        rw [if_pos h3', ← p1]
        obtain ⟨na, nc, rfl, -, hnr⟩ := hns.intsE
        rw [pair_len]
        refine WP.skip <| WP.seq <| WP.region <| vnv (S1.buildSlice rfl (qs := []) rfl rfl) rfl fun b40 => v0 (S0.assign rfl) rfl <| vE <| WP.seq <| WP.seq <| WP.region <| v0 (S0.assign rfl) rfl <| vE <| WP.block <| ?_
        refine WP.loop (fun st : Nat × Value × List Blk => st.1 ≤ n ∧ IsSl 63 2 st.2.1 ((Z.1.take st.1).flatMap enM) st.2.2) (fun st : Nat × Value × List Blk => [(10, .slice na (2 * Z.1.length) nc), (11, .int .i64 (Z.2.1 : Int)), (13, st.2.1), (14, .int .i64 ((2 * st.1 : Nat) : Int))]) (fun st : Nat × Value × List Blk => [st.2.2, nrow]) (fun st : Nat × Value × List Blk => n - st.1) ((0, _, [(b40, .cells ⟨[]⟩ 63 (0, 0))])) (⟨Nat.zero_le _, IsSl.row (n := 0) (c := 0) (l := []) (sp := []) rfl rfl (Nat.le_refl _)⟩) ⟨rfl, rfl, rfl, rfl, trivial⟩ ⟨_, (take1 at0 (take1 at0 take0))⟩ (fun st hinv => ?_)
        obtain ⟨i, ov, orow⟩ := st
        obtain ⟨hi, hos⟩ := hinv
        dsimp only at hi hos ⊢
        refine WP.seq <| WP.seq <| WP.region <| v0 (S0.move rfl) rfl <| v0 (S0.move rfl) rfl <| v0 (S0.lenSl rfl) rfl <| v0 (S0.cmp rfl rfl rfl) rfl <| vE <| ?_
        first | refine WP.condP rfl (fun h4 => ?_) (fun h4 => ?_) | refine WP.condN rfl (fun h4 => ?_) (fun h4 => ?_) | refine WP.cond rfl (fun h4 => ?_) (fun h4 => ?_)
        · have hlt : i < n := by omega
          rcases hnr with ⟨e, -⟩ | ⟨b1, sp1, rfl, rfl, hsp1⟩
          · have := pair_len Z.1; rw [e] at this; simp at this; omega
          have hy : Z.1[i]? = some Z.1[i] := by simp [hzl, hlt]
          generalize Z.1[i] = y at hy
          obtain ⟨g0, g1⟩ := pair_get hy
          have htk : (Z.1.take (i + 1)).flatMap enM = (Z.1.take i).flatMap enM ++ enM y := by rw [List.take_add_one, hy]; simp
          have htl : (Z.1.take i).length = i := by rw [List.length_take]; omega
          refine WP.skip <| WP.seq <| WP.block <| WP.drawP [(0, none), (1, none), (2, none), (3, none), (4, none), (5, none), (6, none), (7, none), (8, none), (9, none), (10, none), (11, none), (12, none), (13, none)] mixed (by kernel_rfl) (by kernel_rfl) (by kernel_rfl) (take1 (atS at0) take0) <| w0 rfl rfl rfl (S0.move rfl) rfl <| w0 rfl rfl rfl (S0.move rfl) rfl <| w0 rfl rfl rfl (S0.move rfl) rfl <| ?_
          refine w0 rfl rfl rfl (S0.index1 rfl rfl (by omega)) rfl <| ?_
          refine w0 rfl rfl rfl (S0.load rfl (ints_get g0)) rfl <| ?_
          refine w0 rfl rfl rfl (S0.move rfl) rfl <| w0 rfl rfl rfl (S0.move rfl) rfl <| w0 rfl rfl rfl (S0.ari rfl rfl rfl (wrap_i64 (by omega))) rfl <| ?_
          rw [show ((2 * i : Nat) : Int) + 1 = ((2 * i + 1 : Nat) : Int) by omega]
          refine w0 rfl rfl rfl (S0.index1 rfl rfl (by omega)) rfl <| ?_
          refine w0 rfl rfl rfl (S0.load rfl (ints_get g1)) rfl <| ?_
          refine w0 rfl rfl rfl (S0.build rfl (qs := [(0, _), (1, _)]) rfl) rfl <| wnv rfl rfl rfl rfl (S1.buildSlice rfl (qs := [(0, _)]) rfl rfl) rfl fun b58 => ?_
          refine we rfl rfl rfl rfl (S1.appendL rfl hos rfl rfl (atS at0) rfl rfl (by rw [flat_len enM_len, htl]; simp; omega)) rfl ?_
          rintro v2 _ ⟨row2, hs2, rfl⟩
          refine w0 rfl rfl rfl (S0.assign rfl) rfl <| wE <| WP.region <| v0 (S0.move rfl) rfl <| v0 (S0.ari rfl rfl rfl (wrap_i64 (by omega))) rfl <| v0 (S0.assign rfl) rfl <| vE <| ?_
          rw [show ((2 * i : Nat) : Int) + 2 = ((2 * (i + 1) : Nat) : Int) by omega]
          exact ⟨(i + 1, v2, row2), (by first | exact ⟨hlt, by rw [htk]; exact hs2⟩ | (dsimp only; exact ⟨hlt, by rw [htk]; exact hs2⟩)), (show n - (i + 1) < n - i by omega), ⟨⟨rfl, rfl, rfl, rfl, trivial⟩, rfl, rfl⟩, ⟨_, (take1 (atS at0) (take1 at0 take0))⟩⟩
        · have e : i = n := by omega
          subst e
          rw [List.take_of_length_le (by omega)] at hos
          refine WP.exit <| WP.seq <| WP.seq <| WP.region <| v0 (S0.move rfl) rfl <| ?_
          refine vcd (S1.callF rfl (rsorted_spec hos (by omega)) (take1 at0 take0)) rfl ?_
          refine v0 (S0.not rfl) rfl <| vE <| ?_
          cases hso : sortedM Z.1 with
          | false =>
            have hc2 : cutM s a = ([], 0, 4) := by rw [hc, if_pos hso]
            refine WP.condTh rfl ((by simp)) ?_
            refine WP.seq <| WP.region <| v0 (S0.assign rfl) rfl <| v0 (S0.assign rfl) rfl <| v0 (S0.assign rfl) rfl <| vE <| WP.ret <| ?_
            refine Leaves.drop (h' := [[]]) (k := [orow, nrow]) (by simp) ?_
            refine r3 rfl rfl rfl rfl ?_
            exact ⟨_, [], by rw [hc2], by rw [hc2]; exact IsSl.nil, rfl⟩
          | true =>
            have hc2 : cutM s a = (Z.1, (Z.2.1 : Int), 0) := by rw [hc, if_neg (by simp [hso])]
            refine WP.condFh rfl ((by simp)) ?_
            refine WP.skip <| WP.seq <| WP.region <| v0 (S0.move rfl) rfl <| v0 (S0.move rfl) rfl <| v0 (S0.assign rfl) rfl <| v0 (S0.assign rfl) rfl <| v0 (S0.assign rfl) rfl <| vE <| WP.ret <| ?_
            refine Leaves.drop (take1 at0 take0) ?_
            refine r3 rfl rfl rfl rfl ?_
            exact ⟨_, orow, by rw [hc2], by rw [hc2]; exact hos, rfl⟩
end Go.Proofs.YtjpjebfodhbdfaaGreatDoor
namespace Go.Proofs.YtjpjebfodhbdfaaGreatDoor
open Go
theorem requal_spec {v1 v2 : Value} {q1 q2 : List Blk} {a b : List MkT} (h1 : IsSl 63 2 v1 (a.flatMap enM) q1) (h2 : IsSl 63 2 v2 (b.flatMap enM) q2) (ha : a.length ≤ 1000000) : FN Tryz.prog 45 [v1, v2] [q1, q2] (is (.bool (decide (a = b))) [q1, q2]) := by
  obtain ⟨a1, c1, rfl, hc1, hr1⟩ := IsSl.elems (k := 1) enM_len h1
  obtain ⟨a2, c2, rfl, hc2, hr2⟩ := IsSl.elems (k := 1) enM_len h2
  refine FN.intro 26 [(0, .slice a1 a.length c1), (1, .slice a2 b.length c2)] Tryz.func45 rfl (enters Tryz.func45 (by kernel_rfl) rfl) Tryz.ntmps45 rfl rfl ?_
  refine WP.seq <| WP.region <| v0 (S0.assign rfl) rfl <| vE <| WP.seq <| WP.seq <| WP.region <| v0 (S0.move rfl) rfl <| v0 (S0.lenSl rfl) rfl <| v0 (S0.move rfl) rfl <| v0 (S0.lenSl rfl) rfl <| v0 (S0.cmp rfl rfl rfl) rfl <| vE <| ?_
  first | refine WP.condP rfl (fun hl => ?_) (fun hl => ?_) | refine WP.condN rfl (fun hl => ?_) (fun hl => ?_) | refine WP.cond rfl (fun hl => ?_) (fun hl => ?_)
  · refine WP.seq <| WP.region <| v0 (S0.assign rfl) rfl <| vE <| WP.ret <| ?_
    refine r1 rfl rfl ⟨?_, rfl⟩
    have : a ≠ b := fun e => hl (by rw [e])
    simp [this]
  · refine WP.skip <| WP.seq <| WP.seq <| WP.region <| v0 (S0.assign rfl) rfl <| vE <| WP.block <| ?_
    refine WP.loop (fun i : Nat => i ≤ a.length ∧ a.take i = b.take i) (fun i : Nat => [(0, .slice a1 a.length c1), (1, .slice a2 b.length c2), (5, .int .i64 (i : Int))]) (fun i : Nat => [q1, q2]) (fun i : Nat => a.length - i) (0) (⟨by omega, rfl⟩) ⟨rfl, rfl, rfl, trivial⟩ ⟨_, (take1 at0 (take1 at0 take0))⟩ (fun i hinv => ?_)
    obtain ⟨hi, htk⟩ := hinv
    refine WP.seq <| WP.seq <| WP.region <| v0 (S0.move rfl) rfl <| v0 (S0.move rfl) rfl <| v0 (S0.lenSl rfl) rfl <| v0 (S0.cmp rfl rfl rfl) rfl <| vE <| ?_
    first | refine WP.condP rfl (fun h3 => ?_) (fun h3 => ?_) | refine WP.condN rfl (fun h3 => ?_) (fun h3 => ?_) | refine WP.cond rfl (fun h3 => ?_) (fun h3 => ?_)
    · have hlt : i < a.length := by omega
      have hlt2 : i < b.length := by omega
      rcases hr1 with ⟨rfl, -⟩ | ⟨b1, sp1, rfl, rfl, hsp1⟩
      · simp at hlt
      rcases hr2 with ⟨rfl, -⟩ | ⟨b2, sp2, rfl, rfl, hsp2⟩
      · simp at hlt2
      have hx : a[i]? = some a[i] := by simp [hlt]
      have hy : b[i]? = some b[i] := by simp [hlt2]
      generalize a[i] = x at hx
      generalize b[i] = y at hy
      obtain ⟨x1, x2⟩ := x
      obtain ⟨y1, y2⟩ := y
      refine WP.skip <| WP.seq <| WP.block <| WP.seq <| WP.drawP [(0, none), (1, none), (2, none), (3, none), (4, none), (5, none), (6, none), (7, none), (8, none)] mixed (by kernel_rfl) (by kernel_rfl) (by kernel_rfl) (take1 at0 (take1 at0 take0)) <| w0 rfl rfl rfl (S0.move rfl) rfl <| w0 rfl rfl rfl (S0.move rfl) rfl <| ?_
      refine w0 rfl rfl rfl (S0.indexN (k := 2) rfl rfl hlt) rfl <| ?_
      refine w0 rfl rfl rfl (S0.loadA (vs := [.int .i64 x1, .int .i64 x2]) rfl (flat_take enM_len sp1 a i _ hx) rfl) rfl <| ?_
      refine w0 rfl rfl rfl (S0.move rfl) rfl <| w0 rfl rfl rfl (S0.move rfl) rfl <| ?_
      refine w0 rfl rfl rfl (S0.indexN (k := 2) rfl rfl hlt2) rfl <| ?_
      refine w0 rfl rfl rfl (S0.loadA (vs := [.int .i64 y1, .int .i64 y2]) rfl (flat_take enM_len sp2 b i _ hy) rfl) rfl <| ?_
      refine w0 rfl rfl rfl (S0.eqAg rfl rfl rfl rfl) rfl <| wE <| ?_
      by_cases e : x1 = y1 ∧ x2 = y2
      · obtain ⟨rfl, rfl⟩ := e
        refine WP.condFh rfl ((by simp)) ?_
        refine WP.skip <| WP.region <| v0 (S0.move rfl) rfl <| v0 (S0.ari rfl rfl rfl (wrap_i64 (by omega))) rfl <| v0 (S0.assign rfl) rfl <| vE <| ?_
        exact ⟨i + 1, (by first | exact ⟨hlt, by rw [List.take_add_one, List.take_add_one, hx, hy, htk]⟩ | (dsimp only; exact ⟨hlt, by rw [List.take_add_one, List.take_add_one, hx, hy, htk]⟩)), (by omega), ⟨⟨rfl, rfl, rfl, trivial⟩, rfl, rfl⟩, ⟨_, (take1 at0 (take1 at0 take0))⟩⟩
      · refine WP.condTh rfl ((by by_cases u : x1 = y1 <;> by_cases u2 : x2 = y2 <;> simp [u, u2]; exact e ⟨u, u2⟩)) ?_
        refine WP.seq <| WP.region <| v0 (S0.assign rfl) rfl <| vE <| WP.ret <| ?_
        refine r1 rfl rfl ⟨?_, rfl⟩
        have : a ≠ b := fun e2 => e (by subst e2; rw [hx] at hy; cases hy; exact ⟨rfl, rfl⟩)
        simp [this]
    · refine WP.exit <| WP.seq <| WP.region <| v0 (S0.assign rfl) rfl <| vE <| WP.ret <| ?_
      refine r1 rfl rfl ⟨?_, rfl⟩
      have : a = b := by
        rw [List.take_of_length_le (by omega), List.take_of_length_le (by omega)] at htk
        exact htk
      simp [this]
end Go.Proofs.YtjpjebfodhbdfaaGreatDoor
namespace Go.Proofs.YtjpjebfodhbdfaaGreatDoor
open Go
theorem within_spec (n a b : Int) : FN Tryz.prog 129 [.int .i64 n, .int .i64 a, .int .i64 b] [] (is (.bool (inB n a b)) []) := by
  refine FN.intro 15 [(0, .int .i64 n), (1, .int .i64 a), (2, .int .i64 b)] Tryz.func129 rfl (enters Tryz.func129 (by kernel_rfl) rfl) Tryz.ntmps129 rfl rfl ?_
  refine WP.seq <| WP.region <| v0 (S0.assign rfl) rfl <| vE <| WP.seq <| WP.region <| v0 (S0.move rfl) rfl <| v0 (S0.move rfl) rfl <| v0 (S0.cmp rfl rfl rfl) rfl <| v0 (S0.move rfl) rfl <| ?_
  first | refine csP (t := 10) rfl (fun hq0 => ?_) (fun hq0 => ?_) | refine csN (t := 10) rfl (fun hq0 => ?_) (fun hq0 => ?_) | refine cs (t := 10) rfl (fun hq0 => ?_) (fun hq0 => ?_)
  ·
    refine gT rfl <| v0 (S0.move rfl) rfl <| gT rfl <| v0 (S0.move rfl) rfl <| gT rfl <| v0 (S0.cmp rfl rfl rfl) rfl <| v0 (S0.pickT rfl rfl) rfl <| v0 (S0.assign rfl) rfl <| vE <| WP.ret <| ?_
    refine r1 rfl rfl ⟨?_, rfl⟩
    exact congrArg Value.bool (by simp [inB, *])
  ·
    refine gF rfl rfl <| gF rfl rfl <| gF rfl rfl <| v0 (S0.pickF rfl rfl) rfl <| v0 (S0.assign rfl) rfl <| vE <| WP.ret <| ?_
    refine r1 rfl rfl ⟨?_, rfl⟩
    exact congrArg Value.bool (by simp [inB, *])
theorem rin_spec (n a b : Int) : FN Tryz.prog 132 [.int .i64 n, .int .i64 a, .int .i64 b] [] (is (.bool (inB n a b)) []) := by
  refine FN.intro 15 [(0, .int .i64 n), (1, .int .i64 a), (2, .int .i64 b)] Tryz.func132 rfl (enters Tryz.func132 (by kernel_rfl) rfl) Tryz.ntmps132 rfl rfl ?_
  refine WP.seq <| WP.region <| v0 (S0.assign rfl) rfl <| vE <| WP.seq <| WP.region <| v0 (S0.move rfl) rfl <| v0 (S0.move rfl) rfl <| v0 (S0.cmp rfl rfl rfl) rfl <| v0 (S0.move rfl) rfl <| ?_
  first | refine csP (t := 10) rfl (fun hq0 => ?_) (fun hq0 => ?_) | refine csN (t := 10) rfl (fun hq0 => ?_) (fun hq0 => ?_) | refine cs (t := 10) rfl (fun hq0 => ?_) (fun hq0 => ?_)
  ·
    refine gT rfl <| v0 (S0.move rfl) rfl <| gT rfl <| v0 (S0.move rfl) rfl <| gT rfl <| v0 (S0.cmp rfl rfl rfl) rfl <| v0 (S0.pickT rfl rfl) rfl <| v0 (S0.assign rfl) rfl <| vE <| WP.ret <| ?_
    refine r1 rfl rfl ⟨?_, rfl⟩
    exact congrArg Value.bool (by simp [inB, *])
  ·
    refine gF rfl rfl <| gF rfl rfl <| gF rfl rfl <| v0 (S0.pickF rfl rfl) rfl <| v0 (S0.assign rfl) rfl <| vE <| WP.ret <| ?_
    refine r1 rfl rfl ⟨?_, rfl⟩
    exact congrArg Value.bool (by simp [inB, *])
theorem evRight_spec {x : Ev} (ht : x.t.length ≤ 900000) : FN Tryz.prog 95 [.agg ⟨evB x⟩] [] (is (.bool (rightE x)) []) := by
  refine FN.intro 27 [(0, .agg ⟨evB x⟩)] Tryz.func95 rfl (enters Tryz.func95 (by kernel_rfl) rfl) Tryz.ntmps95 rfl rfl ?_
  refine WP.seq <| WP.region <| vn (S1.box rfl rfl) rfl fun b1 => v0 (S0.assign rfl) rfl <| vE <| WP.seq <| WP.region <| v0 (S0.fieldAddr rfl) rfl <| v0 (S0.load rfl rfl) rfl <| vcd (S1.callF rfl (within_spec _ _ _) take0) rfl <| v0 (S0.move rfl) rfl <| ?_
  first | refine csP (t := 6) rfl (fun hq0 => ?_) (fun hq0 => ?_) | refine csN (t := 6) rfl (fun hq0 => ?_) (fun hq0 => ?_) | refine cs (t := 6) rfl (fun hq0 => ?_) (fun hq0 => ?_)
  ·
    refine gT rfl <| v0 (S0.fieldAddr rfl) rfl <| gT rfl <| v0 (S0.load rfl rfl) rfl <| gT rfl <| vcd (S1.callF rfl (within_spec _ _ _) take0) rfl <| v0 (S0.pickT rfl rfl) rfl <| v0 (S0.move rfl) rfl <| ?_
    first | refine csP (t := 11) rfl (fun hq1 => ?_) (fun hq1 => ?_) | refine csN (t := 11) rfl (fun hq1 => ?_) (fun hq1 => ?_) | refine cs (t := 11) rfl (fun hq1 => ?_) (fun hq1 => ?_)
    ·
      refine gT rfl <| v0 (S0.fieldAddr rfl) rfl <| gT rfl <| v0 (S0.load rfl rfl) rfl <| gT rfl <| vcd (S1.callF rfl (within_spec _ _ _) take0) rfl <| v0 (S0.pickT rfl rfl) rfl <| v0 (S0.move rfl) rfl <| ?_
      first | refine csP (t := 16) rfl (fun hq2 => ?_) (fun hq2 => ?_) | refine csN (t := 16) rfl (fun hq2 => ?_) (fun hq2 => ?_) | refine cs (t := 16) rfl (fun hq2 => ?_) (fun hq2 => ?_)
      ·
        refine gT rfl <| v0 (S0.fieldAddr rfl) rfl <| gT rfl <| v0 (S0.load rfl rfl) rfl <| gT rfl <| vcd (S1.callF rfl (right_spec (by omega)) take0) rfl <| v0 (S0.pickT rfl rfl) rfl <| v0 (S0.move rfl) rfl <| ?_
        first | refine csP (t := 21) rfl (fun hq3 => ?_) (fun hq3 => ?_) | refine csN (t := 21) rfl (fun hq3 => ?_) (fun hq3 => ?_) | refine cs (t := 21) rfl (fun hq3 => ?_) (fun hq3 => ?_)
        ·
          refine gT rfl <| v0 (S0.fieldAddr rfl) rfl <| gT rfl <| v0 (S0.load rfl rfl) rfl <| gT rfl <| v0 (S0.lenSt rfl) rfl <| gT rfl <| v0 (S0.cmp rfl rfl rfl) rfl <| v0 (S0.pickT rfl rfl) rfl <| v0 (S0.assign rfl) rfl <| vE <| WP.ret <| ?_
          refine Leaves.drop take0 ?_
          refine r1 rfl rfl ⟨?_, rfl⟩
          exact congrArg Value.bool (by simp [rightE, *]; try omega)
        ·
          refine gF rfl rfl <| gF rfl rfl <| gF rfl rfl <| gF rfl rfl <| v0 (S0.pickF rfl rfl) rfl <| v0 (S0.assign rfl) rfl <| vE <| WP.ret <| ?_
          refine Leaves.drop take0 ?_
          refine r1 rfl rfl ⟨?_, rfl⟩
          exact congrArg Value.bool (by simp [rightE, *]; try omega)
      ·
        refine gF rfl rfl <| gF rfl rfl <| gF rfl rfl <| v0 (S0.pickF rfl rfl) rfl <| v0 (S0.move rfl) rfl <| gF rfl rfl <| gF rfl rfl <| gF rfl rfl <| gF rfl rfl <| v0 (S0.pickF rfl rfl) rfl <| v0 (S0.assign rfl) rfl <| vE <| WP.ret <| ?_
        refine Leaves.drop take0 ?_
        refine r1 rfl rfl ⟨?_, rfl⟩
        exact congrArg Value.bool (by simp [rightE, *]; try omega)
    ·
      refine gF rfl rfl <| gF rfl rfl <| gF rfl rfl <| v0 (S0.pickF rfl rfl) rfl <| v0 (S0.move rfl) rfl <| gF rfl rfl <| gF rfl rfl <| gF rfl rfl <| v0 (S0.pickF rfl rfl) rfl <| v0 (S0.move rfl) rfl <| gF rfl rfl <| gF rfl rfl <| gF rfl rfl <| gF rfl rfl <| v0 (S0.pickF rfl rfl) rfl <| v0 (S0.assign rfl) rfl <| vE <| WP.ret <| ?_
      refine Leaves.drop take0 ?_
      refine r1 rfl rfl ⟨?_, rfl⟩
      exact congrArg Value.bool (by simp [rightE, *]; try omega)
  ·
    refine gF rfl rfl <| gF rfl rfl <| gF rfl rfl <| v0 (S0.pickF rfl rfl) rfl <| v0 (S0.move rfl) rfl <| gF rfl rfl <| gF rfl rfl <| gF rfl rfl <| v0 (S0.pickF rfl rfl) rfl <| v0 (S0.move rfl) rfl <| gF rfl rfl <| gF rfl rfl <| gF rfl rfl <| v0 (S0.pickF rfl rfl) rfl <| v0 (S0.move rfl) rfl <| gF rfl rfl <| gF rfl rfl <| gF rfl rfl <| gF rfl rfl <| v0 (S0.pickF rfl rfl) rfl <| v0 (S0.assign rfl) rfl <| vE <| WP.ret <| ?_
    refine Leaves.drop take0 ?_
    refine r1 rfl rfl ⟨?_, rfl⟩
    exact congrArg Value.bool (by simp [rightE, *]; try omega)
theorem revRight_spec {x : Ev} (ht : x.t.length ≤ 900000) : FN Tryz.prog 100 [.agg ⟨evB x⟩] [] (is (.bool (rightE x)) []) := by
  refine FN.intro 27 [(0, .agg ⟨evB x⟩)] Tryz.func100 rfl (enters Tryz.func100 (by kernel_rfl) rfl) Tryz.ntmps100 rfl rfl ?_
  refine WP.seq <| WP.region <| vn (S1.box rfl rfl) rfl fun b1 => v0 (S0.assign rfl) rfl <| vE <| WP.seq <| WP.region <| v0 (S0.fieldAddr rfl) rfl <| v0 (S0.load rfl rfl) rfl <| vcd (S1.callF rfl (rin_spec _ _ _) take0) rfl <| v0 (S0.move rfl) rfl <| ?_
  first | refine csP (t := 6) rfl (fun hq0 => ?_) (fun hq0 => ?_) | refine csN (t := 6) rfl (fun hq0 => ?_) (fun hq0 => ?_) | refine cs (t := 6) rfl (fun hq0 => ?_) (fun hq0 => ?_)
  ·
    refine gT rfl <| v0 (S0.fieldAddr rfl) rfl <| gT rfl <| v0 (S0.load rfl rfl) rfl <| gT rfl <| vcd (S1.callF rfl (rin_spec _ _ _) take0) rfl <| v0 (S0.pickT rfl rfl) rfl <| v0 (S0.move rfl) rfl <| ?_
    first | refine csP (t := 11) rfl (fun hq1 => ?_) (fun hq1 => ?_) | refine csN (t := 11) rfl (fun hq1 => ?_) (fun hq1 => ?_) | refine cs (t := 11) rfl (fun hq1 => ?_) (fun hq1 => ?_)
    ·
      refine gT rfl <| v0 (S0.fieldAddr rfl) rfl <| gT rfl <| v0 (S0.load rfl rfl) rfl <| gT rfl <| vcd (S1.callF rfl (rright_spec (by omega)) take0) rfl <| v0 (S0.pickT rfl rfl) rfl <| v0 (S0.move rfl) rfl <| ?_
      first | refine csP (t := 16) rfl (fun hq2 => ?_) (fun hq2 => ?_) | refine csN (t := 16) rfl (fun hq2 => ?_) (fun hq2 => ?_) | refine cs (t := 16) rfl (fun hq2 => ?_) (fun hq2 => ?_)
      ·
        refine gT rfl <| v0 (S0.fieldAddr rfl) rfl <| gT rfl <| v0 (S0.load rfl rfl) rfl <| gT rfl <| v0 (S0.lenSt rfl) rfl <| gT rfl <| v0 (S0.cmp rfl rfl rfl) rfl <| v0 (S0.pickT rfl rfl) rfl <| v0 (S0.move rfl) rfl <| ?_
        first | refine csP (t := 22) rfl (fun hq3 => ?_) (fun hq3 => ?_) | refine csN (t := 22) rfl (fun hq3 => ?_) (fun hq3 => ?_) | refine cs (t := 22) rfl (fun hq3 => ?_) (fun hq3 => ?_)
        ·
          refine gT rfl <| v0 (S0.fieldAddr rfl) rfl <| gT rfl <| v0 (S0.load rfl rfl) rfl <| gT rfl <| vcd (S1.callF rfl (rin_spec _ _ _) take0) rfl <| v0 (S0.pickT rfl rfl) rfl <| v0 (S0.assign rfl) rfl <| vE <| WP.ret <| ?_
          refine Leaves.drop take0 ?_
          refine r1 rfl rfl ⟨?_, rfl⟩
          exact congrArg Value.bool (by simp [rightE, *]; try omega)
        ·
          refine gF rfl rfl <| gF rfl rfl <| gF rfl rfl <| v0 (S0.pickF rfl rfl) rfl <| v0 (S0.assign rfl) rfl <| vE <| WP.ret <| ?_
          refine Leaves.drop take0 ?_
          refine r1 rfl rfl ⟨?_, rfl⟩
          exact congrArg Value.bool (by simp [rightE, *]; try omega)
      ·
        refine gF rfl rfl <| gF rfl rfl <| gF rfl rfl <| gF rfl rfl <| v0 (S0.pickF rfl rfl) rfl <| v0 (S0.move rfl) rfl <| gF rfl rfl <| gF rfl rfl <| gF rfl rfl <| v0 (S0.pickF rfl rfl) rfl <| v0 (S0.assign rfl) rfl <| vE <| WP.ret <| ?_
        refine Leaves.drop take0 ?_
        refine r1 rfl rfl ⟨?_, rfl⟩
        exact congrArg Value.bool (by simp [rightE, *]; try omega)
    ·
      refine gF rfl rfl <| gF rfl rfl <| gF rfl rfl <| v0 (S0.pickF rfl rfl) rfl <| v0 (S0.move rfl) rfl <| gF rfl rfl <| gF rfl rfl <| gF rfl rfl <| gF rfl rfl <| v0 (S0.pickF rfl rfl) rfl <| v0 (S0.move rfl) rfl <| gF rfl rfl <| gF rfl rfl <| gF rfl rfl <| v0 (S0.pickF rfl rfl) rfl <| v0 (S0.assign rfl) rfl <| vE <| WP.ret <| ?_
      refine Leaves.drop take0 ?_
      refine r1 rfl rfl ⟨?_, rfl⟩
      exact congrArg Value.bool (by simp [rightE, *]; try omega)
  ·
    refine gF rfl rfl <| gF rfl rfl <| gF rfl rfl <| v0 (S0.pickF rfl rfl) rfl <| v0 (S0.move rfl) rfl <| gF rfl rfl <| gF rfl rfl <| gF rfl rfl <| v0 (S0.pickF rfl rfl) rfl <| v0 (S0.move rfl) rfl <| gF rfl rfl <| gF rfl rfl <| gF rfl rfl <| gF rfl rfl <| v0 (S0.pickF rfl rfl) rfl <| v0 (S0.move rfl) rfl <| gF rfl rfl <| gF rfl rfl <| gF rfl rfl <| v0 (S0.pickF rfl rfl) rfl <| v0 (S0.assign rfl) rfl <| vE <| WP.ret <| ?_
    refine Leaves.drop take0 ?_
    refine r1 rfl rfl ⟨?_, rfl⟩
    exact congrArg Value.bool (by simp [rightE, *]; try omega)





end Go.Proofs.YtjpjebfodhbdfaaGreatDoor
namespace Go.Proofs.YtjpjebfodhbdfaaGreatDoor
open Go
theorem rdT_le {s : Str} {a : Nat} {bad : Int} (ha : a ≤ s.length) : (rdT s a bad).2.1 ≤ s.length ∧ (rdT s a bad).1.length ≤ s.length := by
  unfold rdT
  split
  · exact ⟨ha, by simp⟩
  · split
    · exact ⟨ha, by simp⟩
    · rename_i h
      have := cutV_le (Decidable.not_not.1 h)
      exact ⟨this.1, this.2.1⟩
abbrev ptrs3 (b : Nat) : List Value := [.pointer (some ⟨b, 0, none⟩), .pointer (some ⟨b, 1, none⟩), .pointer (some ⟨b, 4, none⟩)]
theorem ev3 (e : Ev) (b : Nat) : ∀ k, k < 3 → ∃ off n, (ptrs3 b)[((k : Nat) : Int).toNat]? = some (.pointer (some ⟨b, off, none⟩)) ∧ (evB e)[off]? = some (.int .i64 n) ∧ [e.o, e.s, e.e][k]? = some n
  | 0, _ => ⟨0, e.o, rfl, rfl, rfl⟩
  | 1, _ => ⟨1, e.s, rfl, rfl, rfl⟩
  | 2, _ => ⟨4, e.e, rfl, rfl, rfl⟩
theorem eput_spec {e : Ev} (ht : e.t.length ≤ 900000) (hl : e.l.length ≤ 900000) : FN Tryz.prog 51 [.agg ⟨evB e⟩] [] (is (sv (putE e)) []) := by
  refine FN.quiet ?_
  refine FN.intro 33 [(0, .agg ⟨evB e⟩)] Tryz.func51 rfl (enters Tryz.func51 (by kernel_rfl) rfl) Tryz.ntmps51 rfl rfl ?_
  refine WP.seq <| WP.region <| vn (S1.box rfl rfl) rfl fun b1 => v0 (S0.assign rfl) rfl <| vE <| WP.seq <| WP.seq <| WP.region <| v0 (S0.loadAL rfl) rfl <| ?_
  refine vcd (S1.callF rfl (evRight_spec ht) take0) rfl ?_
  refine v0 (S0.not rfl) rfl <| vE <| ?_
  cases hr : rightE e with
  | false =>
    refine WP.condTh rfl (rfl) ?_
    refine WP.seq <| WP.region <| v0 (S0.assign rfl) rfl <| vE <| WP.ret <| ?_
    refine r1 rfl rfl ?_
    unfold putE; rw [if_neg (by rw [hr]; decide)]
  | true =>
    have hb := rightE_bd hr
    refine WP.condFh rfl (rfl) ?_
    refine WP.skip <| WP.seq <| WP.region <| v0 (S0.assign rfl) rfl <| vE <| WP.seq <| WP.seq <| WP.region <| v0 (S0.fieldAddr rfl) rfl <| v0 (S0.fieldAddr rfl) rfl <| v0 (S0.fieldAddr rfl) rfl <| v0 (S0.buildArr rfl (qs := [(0, _), (1, _), (2, _)]) rfl) rfl <| v0 (S0.move rfl) rfl <| vE <| WP.block <| ?_
    refine WP.loop (fun k : Nat => k ≤ 3) (fun k : Nat => [(1, .pointer (some ⟨b1, 0, none⟩)), (3, sv (([e.o, e.s, e.e].take k).flatMap fun n => putV n.toNat)), (12, .agg ⟨ptrs3 b1⟩), (13, .int .i64 (k : Int))]) (fun k : Nat => [[(b1, .cells ⟨evB e⟩ 41 (0, 0))]]) (fun k : Nat => 3 - k) (0) (Nat.zero_le _) ⟨rfl, rfl, rfl, rfl, trivial⟩ ⟨_, (take1 at0 take0)⟩ (fun k hinv => ?_)
    refine WP.seq <| WP.region <| v0 (S0.cmp rfl rfl rfl) rfl <| vE <| WP.seq <| ?_
    first | refine WP.condP rfl (fun h1 => ?_) (fun h1 => ?_) | refine WP.condN rfl (fun h1 => ?_) (fun h1 => ?_) | refine WP.cond rfl (fun h1 => ?_) (fun h1 => ?_)
    · have hlt : k < 3 := by omega
      obtain ⟨off, n, g1, g2, g3⟩ := ev3 e b1 k hlt
      have hn : 0 ≤ n ∧ n ≤ 1099511627776 := by
        match k, hlt, g3 with
        | 0, _, g3 => cases g3; omega
        | 1, _, g3 => cases g3; omega
        | 2, _, g3 => cases g3; omega
      have hst : ([e.o, e.s, e.e].take (k + 1)).flatMap (fun n => putV n.toNat) = ([e.o, e.s, e.e].take k).flatMap (fun n => putV n.toNat) ++ putV n.toNat := by
        rw [List.take_add_one, g3]; simp
      have hpl : (([e.o, e.s, e.e].take k).flatMap fun n => putV n.toNat).length ≤ 100 := by
        have h1 := putV_le e.o.toNat
        have h2 := putV_le e.s.toNat
        have h3 := putV_le e.e.toNat
        match k, hlt with
        | 0, _ => simp
        | 1, _ => simp; omega
        | 2, _ => simp; omega
      have hpn := putV_le n.toNat
      rw [show n = ((n.toNat : Nat) : Int) by omega] at g2
      refine WP.skip <| WP.seq <| WP.block <| WP.seq <| WP.region <| ?_
      refine v0 (S0.indexVal rfl rfl ⟨by omega, by omega⟩ g1) rfl <| ?_
      refine v0 (S0.assign rfl) rfl <| vE <| WP.region <| v0 (S0.move rfl) rfl <| v0 (S0.move rfl) rfl <| v0 (S0.nilCheck rfl) rfl <| ?_
      refine v0 (S0.load rfl g2) rfl <| ?_
      refine v0 (S0.convI rfl (wrap_u64 (by omega))) rfl <| ?_
      refine vcd (S1.callF rfl (put_spec (n := n.toNat) (by omega)) take0) rfl ?_
      refine v0 (S0.addS rfl rfl (by omega)) rfl <| ?_
      rw [← hst]
      refine v0 (S0.assign rfl) rfl <| vE <| WP.region <| v0 (S0.ari rfl rfl rfl (wrap_i64 (by omega))) rfl <| v0 (S0.move rfl) rfl <| vE <| ?_
      exact ⟨k + 1, (by first | exact hlt | (dsimp only; exact hlt)), (show 3 - (k + 1) < 3 - k by omega), ⟨⟨rfl, rfl, rfl, rfl, trivial⟩, rfl, rfl⟩, ⟨_, (take1 at0 take0)⟩⟩
    · have e3 : k = 3 := by omega
      subst e3
      have hpt : putE e = ([e.o, e.s, e.e].take 3).flatMap (fun n => putV n.toNat) ++ textB e.t ++ textB e.l := by unfold putE; rw [if_pos hr]; simp
      have hpl : (([e.o, e.s, e.e].take 3).flatMap fun n => putV n.toNat).length ≤ 100 := by
        have h1 := putV_le e.o.toNat
        have h2 := putV_le e.s.toNat
        have h3 := putV_le e.e.toNat
        simp; omega
      have h4 := putV_le e.t.length
      have h5 := putV_le e.l.length
      have q1 : (textB e.t).length ≤ 900009 := by unfold textB; rw [List.length_append]; omega
      have q2 : (textB e.l).length ≤ 900009 := by unfold textB; rw [List.length_append]; omega
      refine WP.exit <| ?_
      refine WP.seq <| WP.drawP [(0, none), (1, none), (2, none), (5, none), (6, none), (3, none), (4, none), (7, none), (8, none), (9, none)] mixed (by kernel_rfl) (by kernel_rfl) (by kernel_rfl) (take1 at0 take0) <| w0 rfl rfl rfl (S0.move rfl) rfl <| w0 rfl rfl rfl (S0.fieldAddr rfl) rfl <| w0 rfl rfl rfl (S0.load rfl rfl) rfl <| w0 rfl rfl rfl (S0.fieldAddr rfl) rfl <| w0 rfl rfl rfl (S0.load rfl rfl) rfl <| ?_
      refine wcd rfl rfl rfl rfl (S1.callF rfl (text_spec (s := e.t) (by omega)) take0) rfl ?_
      refine w0 rfl rfl rfl (S0.addS rfl rfl (by simp only [textB] at q1; omega)) rfl <| ?_
      refine wcd rfl rfl rfl rfl (S1.callF rfl (text_spec (s := e.l) (by omega)) take0) rfl ?_
      refine w0 rfl rfl rfl (S0.addS rfl rfl (by simp only [textB] at q1 q2; simp only [List.length_append] at *; omega)) rfl <| ?_
      refine w0 rfl rfl rfl (S0.assign rfl) rfl <| wE <| WP.ret <| ?_
      refine r1 rfl rfl ?_
      rw [hpt]; rfl
def numAt (s : Str) (a : Nat) : Nat → Nat × Int
  | 0 => (a, 0)
  | k + 1 => (rdN s (numAt s a k).1 (numAt s a k).2).2
def numIs (s : Str) (a k : Nat) : Int := (rdN s (numAt s a k).1 (numAt s a k).2).1
theorem numAt_le {s : Str} {a : Nat} (ha : a ≤ s.length) : ∀ k, (numAt s a k).1 ≤ s.length
  | 0 => ha
  | k + 1 => rdN_le (numAt_le ha k)
def partE (s : Str) (a : Nat) : Nat → Ev
  | 0 => ev0
  | 1 => { ev0 with o := numIs s a 0 }
  | 2 => { ev0 with o := numIs s a 0, s := numIs s a 1 }
  | _ => { ev0 with o := numIs s a 0, s := numIs s a 1, e := numIs s a 2 }
theorem part_set (s : Str) (a b : Nat) : ∀ k, k < 3 → ∃ off, (ptrs3 b)[((k : Nat) : Int).toNat]? = some (.pointer (some ⟨b, off, none⟩)) ∧ off < 5 ∧ (evB (partE s a k)).set off (.int .i64 (numIs s a k)) = evB (partE s a (k + 1))
  | 0, _ => ⟨0, rfl, by decide, rfl⟩
  | 1, _ => ⟨1, rfl, by decide, rfl⟩
  | 2, _ => ⟨4, rfl, by decide, rfl⟩
theorem eget_spec {s : Str} {a : Nat} (hs : s.length ≤ 900000) (ha : a ≤ s.length) : FN Tryz.prog 85 [sv s, .int .i64 (a : Int)] [] (is (.tuple ⟨[.agg ⟨evB (getE s a).1⟩, .int .i64 (getE s a).2.1, .int .i64 (getE s a).2.2]⟩) []) := by
  refine FN.quiet ?_
  refine FN.intro 57 [(0, sv s), (1, .int .i64 (a : Int))] Tryz.func85 rfl (enters Tryz.func85 (by kernel_rfl) rfl) Tryz.ntmps85 rfl rfl ?_
  refine WP.seq <| WP.region <| vn (S1.alloc) rfl fun b4 => v0 (S0.assign rfl) rfl <| v0 (S0.assign rfl) rfl <| vE <| WP.seq <| WP.region <| vn (S1.alloc) rfl fun b7 => vE <| WP.seq <| WP.region <| v0 (S0.move rfl) rfl <| v0 (S0.move rfl) rfl <| ?_
  refine vc (S1.callF rfl (reader_spec s a) take0) rfl ?_
  rintro _ _ ⟨bs, bt, be, rfl, rfl⟩
  refine app ?_
  refine v0 (S0.move rfl) rfl <| v0 (S0.extract rfl rfl) rfl <| v0 (S0.extract rfl rfl) rfl <| v0 (S0.extract rfl rfl) rfl <| v0 (S0.assign rfl) rfl <| v0 (S0.assign rfl) rfl <| v0 (S0.assign rfl) rfl <| vE <| WP.seq <| WP.seq <| WP.region <| v0 (S0.fieldAddr rfl) rfl <| v0 (S0.fieldAddr rfl) rfl <| v0 (S0.fieldAddr rfl) rfl <| v0 (S0.buildArr rfl (qs := [(0, _), (1, _), (2, _)]) rfl) rfl <| v0 (S0.move rfl) rfl <| vE <| WP.block <| ?_
  refine WP.loop (fun k : Nat => k ≤ 3) (fun k : Nat => [(4, .pointer (some ⟨b4, 0, none⟩)), (7, .pointer (some ⟨b7, 0, none⟩)), (8, .func (.func 146) ⟨[]⟩ ⟨[ptrB bs, ptrB bt, ptrB be]⟩), (9, .func (.func 147) ⟨[]⟩ ⟨[ptrB bs, ptrB bt, ptrB be]⟩), (10, .func (.func 148) ⟨[]⟩ ⟨[ptrB bt, ptrB be]⟩), (25, .agg ⟨ptrs3 b7⟩), (26, .int .i64 (k : Int))]) (fun k : Nat => [rdC bs bt be s (numAt s a k).1 (numAt s a k).2, [(b7, .cells ⟨evB (partE s a k)⟩ 41 (0, 0))], [(b4, .cells ⟨evB ev0⟩ 41 (0, 0))]]) (fun k : Nat => 3 - k) (0) (Nat.zero_le _) ⟨rfl, rfl, rfl, rfl, rfl, rfl, rfl, trivial⟩ ⟨_, (take1 at0 (take1 at0 (take1 at0 take0)))⟩ (fun k hinv => ?_)
  have hle := numAt_le ha k
  refine WP.seq <| WP.region <| v0 (S0.cmp rfl rfl rfl) rfl <| vE <| WP.seq <| ?_
  first | refine WP.condP rfl (fun h1 => ?_) (fun h1 => ?_) | refine WP.condN rfl (fun h1 => ?_) (fun h1 => ?_) | refine WP.cond rfl (fun h1 => ?_) (fun h1 => ?_)
  · have hlt : k < 3 := by omega
    obtain ⟨off, g1, hoff, hset⟩ := part_set s a b7 k hlt
    refine WP.skip <| WP.seq <| WP.block <| WP.seq <| WP.region <| ?_
    refine v0 (S0.indexVal rfl rfl ⟨by omega, by omega⟩ g1) rfl <| ?_
    refine v0 (S0.assign rfl) rfl <| vE <| WP.region <| v0 (S0.move rfl) rfl <| v0 (S0.move rfl) rfl <| ?_
    refine vc (S1.callC rfl rfl rfl (num_spec (s := s) (a := (numAt s a k).1) (bad := (numAt s a k).2) (by omega) (by omega)) (take1 at0 take0)) rfl ?_
    rintro _ _ ⟨rfl, rfl⟩
    refine app ?_
    refine v0 (S0.nilCheck rfl) rfl <| ?_
    refine vs (S1.storeI rfl rfl rfl (l' := evB (partE s a (k + 1))) hset (by rw [evB_len]; omega)) <| ?_
    refine vE <| WP.region <| v0 (S0.ari rfl rfl rfl (wrap_i64 (by omega))) rfl <| v0 (S0.move rfl) rfl <| vE <| ?_
    exact ⟨k + 1, (by first | exact hlt | (dsimp only; exact hlt)), (show 3 - (k + 1) < 3 - k by omega), ⟨⟨rfl, rfl, rfl, rfl, rfl, rfl, rfl, trivial⟩, rfl, rfl⟩, ⟨_, (take1 at0 (take1 at0 (take1 at0 take0)))⟩⟩
  · have e3 : k = 3 := by omega
    subst e3
    have hT := rdT_le (bad := (numAt s a 3).2) hle
    have hT2 := rdT_le (bad := (rdT s (numAt s a 3).1 (numAt s a 3).2).2.2) hT.1
    refine WP.exit <| WP.seq <| WP.region <| v0 (S0.move rfl) rfl <| ?_
    refine vc (S1.callC rfl rfl rfl (text2_spec (s := s) (a := (numAt s a 3).1) (bad := (numAt s a 3).2) (by omega) (by omega)) (take1 at0 take0)) rfl ?_
    rintro _ _ ⟨rfl, rfl⟩
    refine app ?_
    refine v0 (S0.move rfl) rfl <| ?_
    refine vc (S1.callC rfl rfl rfl (text2_spec (s := s) (a := (rdT s (numAt s a 3).1 (numAt s a 3).2).2.1) (bad := (rdT s (numAt s a 3).1 (numAt s a 3).2).2.2) (by omega) (by omega)) (take1 at0 take0)) rfl ?_
    rintro _ _ ⟨rfl, rfl⟩
    refine app ?_
    have hg : getE s a = if (rdT s (rdT s (numAt s a 3).1 (numAt s a 3).2).2.1 (rdT s (numAt s a 3).1 (numAt s a 3).2).2.2).2.2 ≠ 0 then (ev0, 0, (rdT s (rdT s (numAt s a 3).1 (numAt s a 3).2).2.1 (rdT s (numAt s a 3).1 (numAt s a 3).2).2.2).2.2) else if rightE ⟨numIs s a 0, numIs s a 1, (rdT s (numAt s a 3).1 (numAt s a 3).2).1, (rdT s (rdT s (numAt s a 3).1 (numAt s a 3).2).2.1 (rdT s (numAt s a 3).1 (numAt s a 3).2).2.2).1, numIs s a 2⟩ = false then (ev0, 0, 4) else (⟨numIs s a 0, numIs s a 1, (rdT s (numAt s a 3).1 (numAt s a 3).2).1, (rdT s (rdT s (numAt s a 3).1 (numAt s a 3).2).2.1 (rdT s (numAt s a 3).1 (numAt s a 3).2).2.2).1, numIs s a 2⟩, ((rdT s (rdT s (numAt s a 3).1 (numAt s a 3).2).2.1 (rdT s (numAt s a 3).1 (numAt s a 3).2).2.2).2.1 : Int), 0) := rfl
    generalize (rdT s (rdT s (numAt s a 3).1 (numAt s a 3).2).2.1 (rdT s (numAt s a 3).1 (numAt s a 3).2).2.2) = y at hg hT2
    generalize (rdT s (numAt s a 3).1 (numAt s a 3).2) = x at hg hT
    obtain ⟨y1, y2, y3⟩ := y
    obtain ⟨x1, x2, x3⟩ := x
    dsimp only at hg hT hT2 ⊢
    refine v0 (S0.fieldAddr rfl) rfl <| vs (S1.store rfl rfl (by first | rfl | exact IsSl.cv (by assumption))) <| v0 (S0.fieldAddr rfl) rfl <| vs (S1.store rfl rfl (by first | rfl | exact IsSl.cv (by assumption))) <| vE <| WP.seq <| WP.region <| v0 (S0.move rfl) rfl <| ?_
    refine vc (S1.callC rfl rfl rfl (end_spec (s := s) (a := y2) (bad := y3)) (take1 at0 take0)) rfl ?_
    rintro _ _ ⟨rfl, rfl⟩
    refine app ?_
    refine v0 (S0.move rfl) rfl <| v0 (S0.extract rfl rfl) rfl <| v0 (S0.extract rfl rfl) rfl <| v0 (S0.assign rfl) rfl <| v0 (S0.assign rfl) rfl <| vE <| WP.seq <| WP.block <| WP.seq <| WP.region <| v0 (S0.move rfl) rfl <| v0 (S0.cmp rfl rfl rfl) rfl <| v0 (S0.assign rfl) rfl <| vE <| ?_
    first | refine WP.condP rfl (fun h2 => ?_) (fun h2 => ?_) | refine WP.condN rfl (fun h2 => ?_) (fun h2 => ?_) | refine WP.cond rfl (fun h2 => ?_) (fun h2 => ?_)
    · rw [if_pos h2] at hg
      refine WP.seq <| WP.region <| v0 (S0.build rfl (qs := []) rfl) rfl <| v0 (S0.move rfl) rfl <| vs (S1.storeA rfl rfl rfl) <| v0 (S0.assign rfl) rfl <| v0 (S0.assign rfl) rfl <| vE <| WP.ret <| ?_
      exact rce rfl rfl (load_agg (vs := evB ev0) (n := 5) (U := 41) (fz := (0, 0)) (by simp; exact .inr rfl) rfl) rfl rfl (by rw [hg])
    · rw [if_neg (by simpa using h2)] at hg
      refine WP.seq <| WP.region <| v0 (S0.loadAL rfl) rfl <| ?_
      refine vcd (S1.callF rfl (evRight_spec (x := ⟨numIs s a 0, numIs s a 1, x1, y1, numIs s a 2⟩) (by dsimp only; omega)) take0) rfl ?_
      generalize hr : rightE ⟨numIs s a 0, numIs s a 1, x1, y1, numIs s a 2⟩ = r at hg
      refine v0 (S0.not rfl) rfl <| v0 (S0.assign rfl) rfl <| vE <| ?_
      cases r with
      | false =>
        refine WP.condTh rfl (rfl) ?_
        rw [if_pos rfl] at hg
        refine WP.seq <| WP.region <| v0 (S0.build rfl (qs := []) rfl) rfl <| vs (S1.storeA rfl rfl rfl) <| v0 (S0.assign rfl) rfl <| v0 (S0.assign rfl) rfl <| vE <| WP.ret <| ?_
        exact rce rfl rfl (load_agg (vs := evB ev0) (n := 5) (U := 41) (fz := (0, 0)) (by simp; exact .inr rfl) rfl) rfl rfl (by rw [hg])
      | true =>
        refine WP.condFh rfl (rfl) ?_
        rw [if_neg (by decide)] at hg
        refine WP.skip <| WP.seq <| WP.region <| v0 (S0.loadAL rfl) rfl <| v0 (S0.move rfl) rfl <| vs (S1.storeA rfl rfl rfl) <| v0 (S0.assign rfl) rfl <| v0 (S0.assign rfl) rfl <| vE <| WP.ret <| ?_
        exact rce rfl rfl (load_agg (vs := evB ⟨numIs s a 0, numIs s a 1, x1, y1, numIs s a 2⟩) (n := 5) (U := 41) (fz := (0, 0)) (by simp [partE]) rfl) rfl rfl (by rw [hg])
theorem eage_spec {e : Ev} (he : -1000000000000 ≤ e.e ∧ e.e ≤ 1000000000000) {n : Int} (hn : n ≤ 1000000000000) : FN Tryz.prog 107 [.agg ⟨evB e⟩, .int .i64 n] [] (is (.agg ⟨evB (ageE e n)⟩) []) := by
  refine FN.quiet ?_
  rw [ageE_prog]
  refine FN.intro 18 [(0, .agg ⟨evB e⟩), (1, .int .i64 n)] Tryz.func107 rfl (enters Tryz.func107 (by kernel_rfl) rfl) Tryz.ntmps107 rfl rfl ?_
  refine WP.seq <| WP.region <| vn (S1.box rfl rfl) rfl fun b2 => vn (S1.alloc) rfl fun b4 => vE <| WP.seq <| WP.seq <| WP.region <| v0 (S0.move rfl) rfl <| v0 (S0.cmp rfl rfl rfl) rfl <| vE <| ?_
  first | refine WP.condP rfl (fun h1 => ?_) (fun h1 => ?_) | refine WP.condN rfl (fun h1 => ?_) (fun h1 => ?_) | refine WP.cond rfl (fun h1 => ?_) (fun h1 => ?_)
  · rw [if_pos h1]
    refine WP.region <| v0 (S0.fieldAddr rfl) rfl <| v0 (S0.load rfl rfl) rfl <| ?_
    refine v0 (S0.max2 (c := max 0 e.e) rfl rfl (by split <;> omega)) rfl <| ?_
    refine v0 (S0.fieldAddr rfl) rfl <| v0 (S0.load rfl rfl) rfl <| ?_
    refine v0 (S0.max2 (c := max 0 e.e) rfl rfl (by split <;> omega)) rfl <| ?_
    refine v0 (S0.move rfl) rfl <| ?_
    refine v0 (S0.min2 (c := min (max 0 e.e) n) rfl rfl (by split <;> omega)) rfl <| ?_
    refine v0 (S0.ari rfl rfl rfl (wrap_i64 (by omega))) rfl <| v0 (S0.fieldAddr rfl) rfl <| vs (S1.store rfl rfl (by first | rfl | exact IsSl.cv (by assumption))) <| vE <| WP.seq <| WP.region <| v0 (S0.loadAL rfl) rfl <| vs (S1.storeA rfl rfl rfl) <| vE <| WP.ret <| ?_
    exact rc1 rfl rfl (load_agg (vs := evB { e with e := max 0 e.e - min (max 0 e.e) n }) (n := 5) (U := 41) (fz := (0, 0)) (by simp) rfl) rfl
  · rw [if_neg h1]
    refine WP.skip <| WP.seq <| WP.region <| v0 (S0.loadAL rfl) rfl <| vs (S1.storeA rfl rfl rfl) <| vE <| WP.ret <| ?_
    exact rc1 rfl rfl (load_agg (vs := evB e) (n := 5) (U := 41) (fz := (0, 0)) (by simp) rfl) rfl
end Go.Proofs.YtjpjebfodhbdfaaGreatDoor
namespace Go.Proofs.YtjpjebfodhbdfaaGreatDoor
open Go
theorem keys_iter {m bx : Nat} {L : ML Int} {ck : Nat} (hw : WfM L ck) : Iter Tryz.prog 117 [.pointer (some ⟨bx, 0, none⟩)] [[(bx, cel [.map (some m)] 76)]] [[(m, mapO (Value.int .i64) L ck)]] (fun (x : Int × Value × Nat) => [.int .i64 x.1]) (fun pre x => x ∈ L ∧ x ∉ pre) (fun xs => xs.Perm L) := by
  refine ⟨enters Tryz.func117 (by kernel_rfl) rfl, fun l J Jx hJ hY h0 hJ0 => ?_⟩
  show FN _ _ _ ([(bx, cel [.map (some m)] 76)] :: h0) _
  obtain ⟨h2, hp2⟩ := hJ [] h0 hJ0
  refine FN.intro 14 [(0, .func (.yield l) #[] #[]), (1, .pointer (some ⟨bx, 0, none⟩))] Tryz.func117 rfl (enters Tryz.func117 (by kernel_rfl) rfl) Tryz.ntmps117 rfl rfl ?_
  refine WP.seq <| WP.region <| v0 (S0.load rfl rfl) rfl <| ?_
  refine WO.perm (h' := [(bx, cel [.map (some m)] 76)] :: [(m, mapO (Value.int .i64) L ck)] :: h2) (k := []) (by simpa using hp2) ?_
  refine vn (S1.range rfl) rfl fun b5 => ?_
  refine vE <| WP.block <| ?_
  refine WP.loop (fun s : ML Int × Hp => s.1.Nodup ∧ (∀ x ∈ s.1, x ∈ L) ∧ J s.1 s.2) (fun s : ML Int × Hp => [(0, .func (.yield l) #[] #[]), (1, .pointer (some ⟨bx, 0, none⟩)), (5, .pointer (some ⟨b5, 0, none⟩))]) (fun s : ML Int × Hp => [(b5, .mapIter (some m) ck ⟨s.1.map (·.2.2)⟩ ck)] :: [(bx, cel [.map (some m)] 76)] :: s.2) (fun s : ML Int × Hp => L.length - s.1.length) (([], h0)) (⟨by simp, by simp, hJ0⟩) ⟨rfl, rfl, rfl, trivial⟩ ⟨[], by simpa using hp2.symm⟩ (fun s hinv => ?_)
  obtain ⟨xs, h⟩ := s
  obtain ⟨hn, hsub, hJs⟩ := hinv
  obtain ⟨h3, hp3⟩ := hJ xs h hJs
  dsimp only at *
  refine WP.seq <| WP.region <| ?_
  refine WO.perm (h' := [(b5, .mapIter (some m) ck ⟨xs.map (·.2.2)⟩ ck)] :: [(bx, cel [.map (some m)] 76)] :: [(m, mapO (Value.int .i64) L ck)] :: h3) (k := []) (by simpa using hp3) ?_
  refine ve (S1.next hw rfl) rfl ?_
  rintro _ _ (⟨rfl, rfl, hall⟩ | ⟨y, hy, hyn, rfl, rfl⟩)
  · refine v0 (S0.extract rfl rfl) rfl <| vE <| WP.seq <| ?_
    refine WP.condFh rfl (rfl) ?_
    refine WP.exit <| ?_
    refine Leaves.drop (h' := [(bx, cel [.map (some m)] 76)] :: h) (k := [[(b5, .mapIter (some m) ck ⟨xs.map (·.2.2)⟩ ck)]]) ?_ ?_
    · simp only [List.flatten_cons, List.flatten_nil, List.append_nil, List.cons_append, List.nil_append] at hp3 ⊢
      exact ((List.Perm.swap _ _ _).trans (((hp3.symm.cons _).trans (List.perm_append_singleton _ _).symm).cons _))
    refine r0 rfl ?_
    exact ⟨xs, h, rfl, .inl ⟨perm_of_all hw hn hsub hall, hJs⟩⟩
  · refine v0 (S0.extract rfl rfl) rfl <| vE <| WP.seq <| ?_
    refine WP.condTh rfl (rfl) ?_
    refine WP.skip <| WP.block <| WP.seq <| WP.region <| ?_
    refine v0 (S0.entry (pre := xs.map (·.2.2)) hw hy (hi := by first | infer_instance | (simp; infer_instance)) rfl) rfl <| ?_
    refine v0 (S0.extract rfl rfl) rfl <| v0 (S0.assign rfl) rfl <| vE <| WP.seq <| WP.region <| v0 (S0.move rfl) rfl <| v0 (S0.move rfl) rfl <| ?_
    refine ve (S1.yield (hr := [(b5, .mapIter (some m) ck ⟨xs.map (·.2.2) ++ [y.2.2]⟩ ck)] :: [(bx, cel [.map (some m)] 76)] :: []) rfl rfl (hY xs y h hJs ⟨hy, fun hm => hyn (List.mem_map.2 ⟨y, hm, rfl⟩)⟩) (by
        simp only [List.flatten_cons, List.flatten_nil, List.append_nil, List.cons_append, List.nil_append] at hp3 ⊢
        refine List.Perm.trans ?_ (List.perm_append_comm (l₁ := [_, _]))
        exact (hp3.symm.cons _).cons _)) rfl ?_
    rintro _ _ ⟨h4, ⟨bb, rfl, hpost⟩, rfl⟩
    refine v0 (S0.not rfl) rfl <| vE <| ?_
    rcases hpost with ⟨rfl, hJ2⟩ | ⟨rfl, hJ2⟩
    · refine WP.condFh rfl (rfl) ?_
      refine WP.skip <| ?_
      have hnd : (xs ++ [y]).Nodup := List.nodup_append.2 ⟨hn, by simp, fun a ha b hb e => by simp at hb; subst hb; subst e; exact hyn (List.mem_map.2 ⟨_, ha, rfl⟩)⟩
      have hsb : ∀ x ∈ xs ++ [y], x ∈ L := fun x hx => (List.mem_append.1 hx).elim (hsub x) fun h => by simp at h; subst h; exact hy
      have hle : (xs ++ [y]).length ≤ L.length := hnd.length_le_of_subset hsb
      have hpm : (h4 ++ ([(b5, Obj.mapIter (some m) ck ⟨xs.map (·.2.2) ++ [y.2.2]⟩ ck)] :: [(bx, cel [.map (some m)] 76)] :: [] : Hp)).flatten.Perm (([(b5, Obj.mapIter (some m) ck ⟨(xs ++ [y]).map (·.2.2)⟩ ck)] :: [(bx, cel [.map (some m)] 76)] :: h4 : Hp).flatten ++ ([] : Hp).flatten) := by
        simp only [List.flatten_append, List.flatten_cons, List.flatten_nil, List.append_nil, List.cons_append, List.nil_append, List.map_append, List.map_cons, List.map_nil]
        exact List.perm_append_comm (l₂ := [_, _])
      exact ⟨(xs ++ [y], h4), (by first | exact ⟨hnd, hsb, hJ2⟩ | (dsimp only; exact ⟨hnd, hsb, hJ2⟩)), (by simp at hle ⊢; omega), ⟨⟨rfl, rfl, rfl, trivial⟩, rfl, rfl⟩, ⟨[], hpm⟩⟩
    · refine WP.condTh rfl (rfl) ?_
      refine WP.ret <| ?_
      refine Leaves.drop (h' := [(bx, cel [.map (some m)] 76)] :: h4) (k := [[(b5, .mapIter (some m) ck ⟨xs.map (·.2.2) ++ [y.2.2]⟩ ck)]]) ?_ ?_
      · simp only [List.flatten_append, List.flatten_cons, List.flatten_nil, List.append_nil, List.cons_append, List.nil_append]
        refine (List.perm_append_comm (l₂ := [_, _])).trans ?_
        exact (List.Perm.swap _ _ _).trans ((List.perm_append_singleton _ _).symm.cons _)
      refine r0 rfl ?_
      exact ⟨xs ++ [y], h4, rfl, .inr hJ2⟩
theorem keys_spec (m : Nat) : FN Tryz.prog 76 [.map (some m)] [] (fun v h => ∃ bx, v = .func (.func 117) ⟨[]⟩ ⟨[.pointer (some ⟨bx, 0, none⟩)]⟩ ∧ h = [[(bx, cel [.map (some m)] 76)]]) := by
  refine FN.intro 4 [(0, .map (some m))] Tryz.func76 rfl (enters Tryz.func76 (by kernel_rfl) rfl) Tryz.ntmps76 rfl rfl ?_
  refine WP.seq <| WP.region <| vn (S1.box rfl rfl) rfl fun b1 => v0 (S0.assign rfl) rfl <| vE <| WP.seq <| WP.region <| v0 (S0.makeFunc rfl rfl) rfl <| v0 (S0.assign rfl) rfl <| vE <| WP.ret <| ?_
  refine r1 rfl rfl ?_
  exact ⟨_, rfl, rfl⟩
end Go.Proofs.YtjpjebfodhbdfaaGreatDoor
namespace Go.Proofs.YtjpjebfodhbdfaaGreatDoor
open Go
theorem appendSeq_keys {m bx : Nat} {L : ML Int} {ck : Nat} {cm : List Blk} [hm : HasC cm m (mapO (Value.int .i64) L ck)] (hw : WfM L ck) (hl : L.length ≤ 1000000) :
    FN Tryz.prog 138 [.slice none 0 0, .func (.func 117) ⟨[]⟩ ⟨[.pointer (some ⟨bx, 0, none⟩)]⟩] [[(bx, cel [.map (some m)] 76)], cm]
      (fun v h => ∃ (xs : ML Int) (row : List Blk), xs.Perm L ∧ IsSl 3 1 v (ints (xs.map (·.1))) row ∧ h = [row, cm]) := by
  refine FN.intro 13 [(0, .slice none 0 0), (1, .func (.func 117) ⟨[]⟩ ⟨[.pointer (some ⟨bx, 0, none⟩)]⟩)] Tryz.func138 rfl (enters Tryz.func138 (by kernel_rfl) rfl) Tryz.ntmps138 rfl rfl ?_
  refine WP.seq <| WP.region <| vn (S1.box rfl rfl) rfl fun b2 => v0 (S0.assign rfl) rfl <| vE <| WP.seq <| WP.seq <| WP.region <| v0 (S0.move rfl) rfl <| vE <| WP.block <| ?_
  refine WP.rangeSup (keys_iter (L := L) (ck := ck) hw) rfl (take1 (atS at0) take0) rfl (fun _ => rfl) ((fun pre h => pre.Nodup ∧ (∀ x ∈ pre, x ∈ L) ∧ ∃ v row, IsSl 3 1 v (ints (pre.map (·.1))) row ∧ h = [(b2, cel [v] 48)] :: row :: cm :: [])) ((fun _ _ _ => False)) ?_ ?_ ?_ ?_ ?_
  · rintro pre h ⟨-, -, v, row, -, rfl⟩
    exact Sup.has
  · exact ⟨_, ⟨by simp, by simp, _, [], .nil, rfl⟩, [], by simp⟩
  · rintro l pre x _ ⟨hnd, hsub, v, row, hsl, rfl⟩ ⟨hxL, hxn⟩
    show WP _ _ _ _ ⟨_, (7, _) :: _, _⟩ _
    have hpl : pre.length ≤ L.length := hnd.length_le_of_subset hsub
    have hnd' : (pre ++ [x]).Nodup := List.nodup_append.2 ⟨hnd, by simp, fun a ha b hb e => by simp at hb; subst hb; subst e; exact hxn ha⟩
    have hsub' : ∀ z ∈ pre ++ [x], z ∈ L := fun z hz => (List.mem_append.1 hz).elim (hsub z) fun h => by simp at h; subst h; exact hxL
    refine WP.region <| v0 (S0.assign rfl) rfl <| vE <| WP.block <| WP.region <| v0 (S0.load rfl rfl) rfl <| v0 (S0.move rfl) rfl <| vnv (S1.buildSlice rfl (qs := [(0, _)]) rfl rfl) rfl fun b10 => ?_
    refine ve (S1.appendL rfl hsl rfl rfl (atS (atS at0)) rfl rfl (by rw [ints_len]; simp; omega)) rfl ?_
    rintro v2 _ ⟨row2, hsl2, rfl⟩
    refine vs (S1.store rfl rfl (by first | rfl | exact IsSl.cv (by assumption))) <| vE <| ?_
    refine ⟨_, ⟨hnd', hsub', v2, row2, ?_, rfl⟩, ?_⟩
    · simpa [ints] using hsl2
    · exact ⟨_, (take1 (atS (atS at0)) (take1 at0 (take1 (atS at0) take0)))⟩
  · rintro D xs h1 hx hS ⟨hnd, hsub, v, row, hsl, rfl⟩ hsup
    refine WP.sup hsup ?_
    refine WP.appc ?_
    refine WP.seq <| WP.region <| v0 (S0.load rfl rfl) rfl <| v0 (S0.assign rfl) rfl <| vE <| WP.ret <| ?_
    refine rm (take1 at0 take0) ?_
    refine Leaves.drop (take1 (atS (atS at0)) (take1 (atS (atS at0)) take0)) ?_
    refine r1 rfl rfl ?_
    exact ⟨xs, row, hS, hsl, rfl⟩
  · rintro D c xs h1 hx hf
    exact hf.elim
theorem sorted_keys {m bx : Nat} {L : ML Int} {ck : Nat} {cm : List Blk} [hm : HasC cm m (mapO (Value.int .i64) L ck)] (hw : WfM L ck) (hl : L.length ≤ 1000000) :
    FN Tryz.prog 75 [.func (.func 117) ⟨[]⟩ ⟨[.pointer (some ⟨bx, 0, none⟩)]⟩] [[(bx, cel [.map (some m)] 76)], cm]
      (fun v h => ∃ (xs : ML Int) (row : List Blk), xs.Perm L ∧ IsSl 3 1 v (ints (sortI (xs.map (·.1)))) row ∧ h = [row, cm]) := by
  have collect : FN Tryz.prog 115 [.func (.func 117) ⟨[]⟩ ⟨[.pointer (some ⟨bx, 0, none⟩)]⟩] [[(bx, cel [.map (some m)] 76)], cm]
      (fun v h => ∃ (xs : ML Int) (row : List Blk), xs.Perm L ∧ IsSl 3 1 v (ints (xs.map (·.1))) row ∧ h = [row, cm]) := by
    refine FN.intro 5 [(0, .func (.func 117) ⟨[]⟩ ⟨[.pointer (some ⟨bx, 0, none⟩)]⟩)] Tryz.func115 rfl (enters Tryz.func115 (by kernel_rfl) rfl) Tryz.ntmps115 rfl rfl ?_
    refine WP.seq <| WP.region <| v0 (S0.assign rfl) rfl <| vE <| WP.seq <| WP.region <| v0 (S0.move rfl) rfl <| ?_
    refine vc (S1.callF rfl (appendSeq_keys (ck := ck) hw hl) (take1 at0 (take1 at0 take0))) rfl ?_
    rintro v _ ⟨xs, row, hp, hs, rfl⟩
    refine app ?_
    refine v0 (S0.assign rfl) rfl <| vE <| WP.ret <| ?_
    refine r1 rfl rfl ?_
    exact ⟨xs, row, hp, hs, rfl⟩
  refine FN.intro 9 [(0, .func (.func 117) ⟨[]⟩ ⟨[.pointer (some ⟨bx, 0, none⟩)]⟩)] Tryz.func75 rfl (enters Tryz.func75 (by kernel_rfl) rfl) Tryz.ntmps75 rfl rfl ?_
  refine WP.seq <| WP.region <| v0 (S0.assign rfl) rfl <| vE <| WP.seq <| WP.region <| v0 (S0.move rfl) rfl <| ?_
  refine vc (S1.callF rfl (collect) (take1 at0 (take1 at0 take0))) rfl ?_
  rintro v _ ⟨xs, row, hp, hs, rfl⟩
  refine app ?_
  refine v0 (S0.assign rfl) rfl <| vE <| WP.seq <| WP.region <| v0 (S0.move rfl) rfl <| ?_
  refine vc (S1.callF rfl (sort_spec (enters Tryz.func116 (by kernel_rfl) rfl) Tryz.slices_Sort_int Tryz.slices_Sort_int_none hs (by have := hp.length_eq; simp; omega)) (take1 at0 take0)) rfl ?_
  rintro _ _ ⟨rfl, row2, hs2, rfl⟩
  refine app ?_
  refine vE <| WP.seq <| WP.region <| v0 (S0.move rfl) rfl <| v0 (S0.assign rfl) rfl <| vE <| WP.ret <| ?_
  refine r1 rfl rfl ?_
  exact ⟨xs, row2, hp, hs2, rfl⟩
end Go.Proofs.YtjpjebfodhbdfaaGreatDoor
namespace Go.Proofs.YtjpjebfodhbdfaaGreatDoor
open Go
structure MkA (A : ML Int) (ck : Nat) (M : List MkT) : Prop where
  wf : WfM A ck
  ms : ∀ o, getM A o = (mkO M o).map (Value.int .i64)
theorem MkA.nil : MkA [] 0 [] := ⟨WfM.nil, fun _ => rfl⟩
theorem MkA.keys {A : ML Int} {ck : Nat} {M : List MkT} (h : MkA A ck M) (hr : RisM M) : (A.map (·.1)).Perm (M.map (·.1)) := by
  have h2 : (M.map (·.1)).Nodup := by
    rw [List.nodup_iff_pairwise_ne, List.pairwise_map]
    exact hr.imp fun {a b} hab e => by omega
  refine (List.perm_ext_iff_of_nodup h.wf.keys h2).2 fun i => ?_
  have e1 := h.ms i
  have e2 := get_none_iff (L := A) (k := i)
  have e3 := mkO_none (M := M) (o := i)
  rw [e1] at e2
  have : i ∉ A.map (·.1) ↔ i ∉ M.map (·.1) := by
    rw [← e2, ← e3]; cases mkO M i <;> simp
  exact Decidable.not_iff_not.1 this
theorem MkA.len {A : ML Int} {ck : Nat} {M : List MkT} (h : MkA A ck M) (hr : RisM M) : A.length = M.length := by simpa using (h.keys hr).length_eq
theorem sortI_pw (l : List Int) : (sortI l).Pairwise (· ≤ ·) := by
  have := List.pairwise_mergeSort (le := fun x y : Int => decide (x ≤ y)) (by intro a b c h1 h2; simp at *; omega) (by intro a b; simp; omega) l
  exact this.imp (fun h => by simpa using h)
theorem sortI_asc {l m : List Int} (hp : l.Perm m) (hm : m.Pairwise (· < ·)) : sortI l = m :=
  ((List.mergeSort_perm _ _).trans hp).eq_of_pairwise (fun x y _ _ h1 h2 => by omega) (sortI_pw l) (hm.imp fun h => by omega)
theorem MkA.sort {A : ML Int} {ck : Nat} {M : List MkT} (h : MkA A ck M) (hr : RisM M) {xs : ML Int} (hp : xs.Perm A) : sortI (xs.map (·.1)) = M.map (·.1) :=
  sortI_asc ((hp.map _).trans (h.keys hr)) (List.pairwise_map.2 hr)
theorem MkA.put {A : ML Int} {ck : Nat} {M : List MkT} (h : MkA A ck M) (m : MkT) : MkA (putM A ck m.1 (.int .i64 m.2)) (clkM A ck m.1) (setMk M m) :=
  ⟨h.wf.put _ _, fun o => by
    rw [get_put, mkO_set]
    by_cases e : o = m.1
    · simp [e]
    · simp only [e, if_false]; exact h.ms o⟩
theorem mk_getD (o : Option Int) : (o.map (Value.int .i64)).getD (.int .i64 0) = .int .i64 (o.getD 0) := by cases o <;> rfl
abbrev enN (x : Nat × Ev) : List Value := [.int .i64 (x.1 : Int), .int .i64 x.2.o, .int .i64 x.2.s, sv x.2.t, sv x.2.l, .int .i64 x.2.e]
theorem enN_len (x : Nat × Ev) : (enN x).length = 5 + 1 := rfl
abbrev bkB (bb lb : Nat) (v : Value) (m : Nat) (n : Int) : Blk := (bb, .cells ⟨[ptrB lb, v, .map (some m), .int .i64 n]⟩ 79 (0, 0))
def IsCt (bb lb : Nat) (b : Ct) (cc : List Blk) : Prop := ∃ v row m A ck, IsSl 102 6 v (b.L.flatMap enN) row ∧ MkA A ck b.M ∧ cc = bkB bb lb v m (b.n : Int) :: (m, mapO (Value.int .i64) A ck) :: row
structure CtW (b : Ct) : Prop where
  ms : sortedM b.M = true
  len : b.L.length ≤ 64
  ev : ∀ x ∈ b.L, rightE x.2 = true ∧ x.1 ≤ b.n
theorem CtOk.w {b : Ct} (h : CtOk b) : CtW b := ⟨h.ms, h.len, fun x hx => ⟨(h.ev x hx).1, (h.top x hx).2⟩⟩
theorem CtW.ris {b : Ct} (h : CtW b) : RisM b.M ∧ b.M.length ≤ 32 := ⟨(sortedM_iff.1 h.ms).1, (sortedM_iff.1 h.ms).2.2⟩
theorem count_spec {bb lb : Nat} {b : Ct} {cc : List Blk} (h : IsCt bb lb b cc) : FN Tryz.prog 33 [ptrB bb] [cc] (is (.int .i64 (b.n : Int)) [cc]) := by
  obtain ⟨v, row, m, A, ck, hs, hA, rfl⟩ := h
  refine FN.intro 7 [(0, ptrB bb)] Tryz.func33 rfl (enters Tryz.func33 (by kernel_rfl) rfl) Tryz.ntmps33 rfl rfl ?_
  refine WP.seq <| WP.region <| v0 (S0.assign rfl) rfl <| vE <| WP.seq <| WP.region <| v0 (S0.move rfl) rfl <| v0 (S0.nilCheck rfl) rfl <| v0 (S0.fieldAddr rfl) rfl <| v0 (S0.load rfl rfl) rfl <| v0 (S0.assign rfl) rfl <| vE <| WP.ret <| ?_
  refine r1 rfl rfl ⟨?_, rfl⟩
  rfl
theorem room_spec {bb lb : Nat} {b : Ct} {cc : List Blk} (h : IsCt bb lb b cc) (ho : CtW b) : FN Tryz.prog 34 [ptrB bb] [cc] (is (.int .i64 (64 - (b.L.length : Int))) [cc]) := by
  obtain ⟨v, row, m, A, ck, hs, hA, rfl⟩ := h
  obtain ⟨a, cap, rfl, hcap, hrow⟩ := IsSl.elems (k := 5) enN_len hs
  have hl := ho.len
  refine FN.intro 9 [(0, ptrB bb)] Tryz.func34 rfl (enters Tryz.func34 (by kernel_rfl) rfl) Tryz.ntmps34 rfl rfl ?_
  refine WP.seq <| WP.region <| v0 (S0.assign rfl) rfl <| vE <| WP.seq <| WP.region <| v0 (S0.move rfl) rfl <| v0 (S0.nilCheck rfl) rfl <| v0 (S0.fieldAddr rfl) rfl <| v0 (S0.load rfl rfl) rfl <| v0 (S0.lenSl rfl) rfl <| v0 (S0.ari rfl rfl rfl (wrap_i64 (by omega))) rfl <| v0 (S0.assign rfl) rfl <| vE <| WP.ret <| ?_
  refine r1 rfl rfl ⟨?_, rfl⟩
  rfl
theorem seq_spec {bb lb : Nat} {b : Ct} {cc : List Blk} (h : IsCt bb lb b cc) (o : Int) : FN Tryz.prog 27 [ptrB bb, .int .i64 o] [cc] (is (.int .i64 (seqK b o)) [cc]) := by
  obtain ⟨v, row, m, A, ck, hs, hA, rfl⟩ := h
  refine FN.intro 11 [(0, ptrB bb), (1, .int .i64 o)] Tryz.func27 rfl (enters Tryz.func27 (by kernel_rfl) rfl) Tryz.ntmps27 rfl rfl ?_
  refine WP.seq <| WP.region <| v0 (S0.assign rfl) rfl <| vE <| WP.seq <| WP.region <| v0 (S0.move rfl) rfl <| v0 (S0.nilCheck rfl) rfl <| v0 (S0.fieldAddr rfl) rfl <| v0 (S0.load rfl rfl) rfl <| v0 (S0.move rfl) rfl <| ?_
  refine v0 (S0.lookupV (ek := Value.int .i64) (k := o) (v := .int .i64 (seqK b o)) rfl rfl (by rw [hA.ms, mk_getD]; rfl)) rfl <| ?_
  refine v0 (S0.assign rfl) rfl <| vE <| WP.ret <| ?_
  refine r1 rfl rfl ⟨?_, rfl⟩
  rfl
abbrev evsB (E : List Ev) : List Value := E.flatMap evB
theorem evsB_len (E : List Ev) : (evsB E).length = E.length * 5 := flat_len evB_len E
theorem list_spec {bb lb : Nat} {b : Ct} {cc : List Blk} (h : IsCt bb lb b cc) (ho : CtW b) : FN Tryz.prog 35 [ptrB bb] [cc] (fun u h => ∃ row, IsSl 41 5 u (evsB (b.L.map (·.2))) row ∧ h = [row, cc]) := by
  obtain ⟨v, row, m, A, ck, hs, hA, rfl⟩ := h
  obtain ⟨a, cap, rfl, hcap, hrow⟩ := IsSl.elems (k := 5) enN_len hs
  have hl := ho.len
  refine FN.intro 22 [(0, ptrB bb)] Tryz.func35 rfl (enters Tryz.func35 (by kernel_rfl) rfl) Tryz.ntmps35 rfl rfl ?_
  refine WP.seq <| WP.region <| v0 (S0.assign rfl) rfl <| vE <| WP.seq <| WP.region <| v0 (S0.assign rfl) rfl <| vE <| WP.seq <| WP.seq <| WP.region <| v0 (S0.move rfl) rfl <| v0 (S0.nilCheck rfl) rfl <| v0 (S0.fieldAddr rfl) rfl <| v0 (S0.load rfl rfl) rfl <| v0 (S0.lenSl rfl) rfl <| v0 (S0.move rfl) rfl <| vE <| WP.block <| ?_
  refine WP.loop (fun st : Nat × Value × List Blk => st.1 ≤ b.L.length ∧ IsSl 41 5 st.2.1 (evsB ((b.L.take st.1).map (·.2))) st.2.2) (fun st : Nat × Value × List Blk => [(3, st.2.1), (9, .slice a b.L.length cap), (10, .int .i64 (b.L.length : Int)), (11, .int .i64 (st.1 : Int))]) (fun st : Nat × Value × List Blk => [st.2.2, bkB bb lb (.slice a b.L.length cap) m (b.n : Int) :: (m, mapO (Value.int .i64) A ck) :: row]) (fun st : Nat × Value × List Blk => b.L.length - st.1) ((0, .slice none 0 0, [])) (⟨Nat.zero_le _, IsSl.nil⟩) ⟨rfl, rfl, rfl, rfl, trivial⟩ ⟨[], (pm fun a_ => by (try simp only [List.flatten_append, List.flatten_cons, List.flatten_nil, List.append_nil, List.cons_append, List.nil_append, List.append_assoc, nOf_app, nOf_cons, nOf_nil, Nat.add_zero, Nat.zero_add, List.map_append, List.map_cons, List.map_nil, cel, sv]); first | done | omega)⟩ (fun st hinv => ?_)
  obtain ⟨k, ov, orow⟩ := st
  obtain ⟨hk, hos⟩ := hinv
  dsimp only at hk hos ⊢
  refine WP.seq <| WP.region <| v0 (S0.cmp rfl rfl rfl) rfl <| vE <| WP.seq <| ?_
  first | refine WP.condP rfl (fun h1 => ?_) (fun h1 => ?_) | refine WP.condN rfl (fun h1 => ?_) (fun h1 => ?_) | refine WP.cond rfl (fun h1 => ?_) (fun h1 => ?_)
  · have hlt : k < b.L.length := by omega
    rcases hrow with ⟨e, -⟩ | ⟨b1, sp1, rfl, rfl, hsp1⟩
    · rw [e] at hlt; simp at hlt
    have hx : b.L[k]? = some b.L[k] := by simp [hlt]
    generalize b.L[k] = x at hx
    have gA := flat_take enN_len sp1 b.L k x hx
    refine WP.skip <| WP.seq <| WP.block <| WP.seq <| WP.region <| ?_
    refine v0 (S0.indexN (k := 6) rfl rfl hlt) rfl <| ?_
    refine v0 (S0.loadA rfl gA rfl) rfl <| ?_
    refine vn (S1.alloc) rfl fun b5 => vs (S1.storeA rfl rfl rfl) <| vE <| WP.region <| v0 (S0.move rfl) rfl <| v0 (S0.fieldAddr rfl) rfl <| v0 (S0.loadAL rfl) rfl <| vnv (S1.buildSlice rfl (qs := [(0, _)]) rfl rfl) rfl fun b18 => ?_
    refine ve (S1.appendL rfl hos rfl rfl (atS (atS at0)) rfl rfl (by rw [evsB_len, List.length_map, List.length_take]; simp; omega)) rfl ?_
    rintro v2 _ ⟨row2, hs2, rfl⟩
    have hs3 : IsSl 41 5 v2 (evsB ((b.L.take (k + 1)).map (·.2))) row2 := by
      rw [List.take_add_one, hx]; simpa using hs2
    refine v0 (S0.assign rfl) rfl <| vE <| WP.region <| v0 (S0.ari rfl rfl rfl (wrap_i64 (by omega))) rfl <| v0 (S0.move rfl) rfl <| vE <| ?_
    exact ⟨(k + 1, v2, row2), (by first | exact ⟨hlt, hs3⟩ | (dsimp only; exact ⟨hlt, hs3⟩)), (show b.L.length - (k + 1) < b.L.length - k by omega), ⟨⟨rfl, rfl, rfl, rfl, trivial⟩, rfl, rfl⟩, ⟨_, (take1 at0 (take1 (atS (atS at0)) take0))⟩⟩
  · have e : k = b.L.length := by omega
    rw [e, List.take_length] at hos
    refine WP.exit <| WP.seq <| WP.region <| v0 (S0.move rfl) rfl <| v0 (S0.assign rfl) rfl <| vE <| WP.ret <| ?_
    refine r1 rfl rfl ?_
    exact ⟨orow, hos, rfl⟩
end Go.Proofs.YtjpjebfodhbdfaaGreatDoor
namespace Go.Proofs.YtjpjebfodhbdfaaGreatDoor
open Go
theorem bmarks_spec {bb lb : Nat} {b : Ct} {cc : List Blk} (h : IsCt bb lb b cc) (ho : CtW b) : FN Tryz.prog 31 [ptrB bb] [cc] (fun u h => ∃ row, IsSl 63 2 u (b.M.flatMap enM) row ∧ h = [row, cc]) := by
  obtain ⟨v, row, m, A, ck, hs, hA, rfl⟩ := h
  obtain ⟨hris, hlM⟩ := ho.ris
  have hlA := hA.len hris
  refine FN.intro 30 [(0, ptrB bb)] Tryz.func31 rfl (enters Tryz.func31 (by kernel_rfl) rfl) Tryz.ntmps31 rfl rfl ?_
  refine WP.seq <| WP.region <| v0 (S0.assign rfl) rfl <| vE <| WP.seq <| WP.region <| v0 (S0.assign rfl) rfl <| vE <| WP.seq <| WP.seq <| WP.region <| v0 (S0.move rfl) rfl <| v0 (S0.nilCheck rfl) rfl <| v0 (S0.fieldAddr rfl) rfl <| v0 (S0.load rfl rfl) rfl <| ?_
  refine vc (S1.callF rfl (keys_spec m) take0) rfl ?_
  rintro _ _ ⟨bx, rfl, rfl⟩
  refine app ?_
  refine WO.perm (h' := [[(bx, cel [.map (some m)] 76)], [(m, mapO (Value.int .i64) A ck)], [bkB bb lb v m (b.n : Int)], row]) (k := []) (pm fun a_ => by (try simp only [List.flatten_append, List.flatten_cons, List.flatten_nil, List.append_nil, List.cons_append, List.nil_append, List.append_assoc, nOf_app, nOf_cons, nOf_nil, Nat.add_zero, Nat.zero_add, List.map_append, List.map_cons, List.map_nil, cel, sv]); first | done | omega) ?_
  refine vc (S1.callF rfl (sorted_keys (m := m) (L := A) (ck := ck) hA.wf (by omega)) (take1 at0 (take1 at0 take0))) rfl ?_
  rintro kv _ ⟨xs, krow, hp, hks, rfl⟩
  refine app ?_
  rw [hA.sort hris hp] at hks
  have hML : (b.M.map (·.1)).length = b.M.length := List.length_map _
  obtain ⟨a, cap, rfl, hcap, hkrow⟩ := hks.intsE
  refine v0 (S0.lenSl rfl) rfl <| v0 (S0.move rfl) rfl <| vE <| WP.block <| ?_
  refine WP.loop (fun s : Nat × Value × List Blk => s.1 ≤ b.M.length ∧ IsSl 63 2 s.2.1 ((b.M.take s.1).flatMap enM) s.2.2) (fun s : Nat × Value × List Blk => [(0, ptrB bb), (3, s.2.1), (11, .slice a (b.M.map (·.1)).length cap), (12, .int .i64 ((b.M.map (·.1)).length : Int)), (13, .int .i64 (s.1 : Int))]) (fun s : Nat × Value × List Blk => [s.2.2, krow, [(m, mapO (Value.int .i64) A ck)], [bkB bb lb v m (b.n : Int)], row]) (fun s : Nat × Value × List Blk => b.M.length - s.1) ((0, .slice none 0 0, [])) (⟨Nat.zero_le _, IsSl.nil⟩) ⟨rfl, rfl, rfl, rfl, rfl, trivial⟩ ⟨[], (pm fun a_ => by (try simp only [List.flatten_append, List.flatten_cons, List.flatten_nil, List.append_nil, List.cons_append, List.nil_append, List.append_assoc, nOf_app, nOf_cons, nOf_nil, Nat.add_zero, Nat.zero_add, List.map_append, List.map_cons, List.map_nil, cel, sv]); first | done | omega)⟩ (fun s hinv => ?_)
  obtain ⟨k, ov, orow⟩ := s
  obtain ⟨hk, hos⟩ := hinv
  dsimp only at hk hos ⊢
  refine WP.seq <| WP.region <| v0 (S0.cmp rfl rfl rfl) rfl <| vE <| WP.seq <| ?_
  first | refine WP.condP rfl (fun h1 => ?_) (fun h1 => ?_) | refine WP.condN rfl (fun h1 => ?_) (fun h1 => ?_) | refine WP.cond rfl (fun h1 => ?_) (fun h1 => ?_)
  · have hlt : k < b.M.length := by omega
    have hz : b.M[k]? = some b.M[k] := by simp [hlt]
    have hgz := mkO_of hris (List.getElem_mem hlt)
    generalize b.M[k] = z at hz hgz
    have hiz : (b.M.map (·.1))[k]? = some z.1 := by simp [hz]
    rcases hkrow with ⟨e, -⟩ | ⟨b1, sp1, rfl, rfl, hsp1⟩
    · have := congrArg List.length e; simp at this; rw [this] at hlt; simp at hlt
    refine WP.skip <| WP.seq <| WP.block <| WP.seq <| WP.region <| ?_
    refine v0 (S0.index1 rfl rfl (by omega)) rfl <| ?_
    refine v0 (S0.load rfl (ints_get hiz)) rfl <| ?_
    refine v0 (S0.assign rfl) rfl <| vE <| WP.region <| v0 (S0.move rfl) rfl <| v0 (S0.move rfl) rfl <| v0 (S0.move rfl) rfl <| v0 (S0.nilCheck rfl) rfl <| v0 (S0.fieldAddr rfl) rfl <| v0 (S0.load rfl rfl) rfl <| v0 (S0.move rfl) rfl <| ?_
    refine v0 (S0.lookupS (ek := Value.int .i64) (k := z.1) (v := .int .i64 z.2) rfl rfl (by rw [hA.ms, hgz]; rfl)) rfl <| ?_
    refine v0 (S0.build rfl (qs := [(0, _), (1, _)]) rfl) rfl <| vnv (S1.buildSlice rfl (qs := [(0, _)]) rfl rfl) rfl fun b26 => ?_
    refine ve (S1.appendL rfl hos rfl rfl (atS at0) rfl rfl (by rw [flat_len enM_len]; simp; omega)) rfl ?_
    rintro v2 _ ⟨row2, hs2, rfl⟩
    refine v0 (S0.assign rfl) rfl <| vE <| WP.region <| v0 (S0.ari rfl rfl rfl (wrap_i64 (by omega))) rfl <| v0 (S0.move rfl) rfl <| vE <| ?_
    have hs3 : IsSl 63 2 v2 ((b.M.take (k + 1)).flatMap enM) row2 := by
      rw [List.take_add_one, hz]; simpa using hs2
    exact ⟨(k + 1, v2, row2), (by first | exact ⟨hlt, hs3⟩ | (dsimp only; exact ⟨hlt, hs3⟩)), (show b.M.length - (k + 1) < b.M.length - k by omega), ⟨⟨rfl, rfl, rfl, rfl, rfl, trivial⟩, rfl, rfl⟩, ⟨_, (take1 at0 (take1 (atS at0) (take1 (atS at0) (take1 (atS at0) (take1 (atS at0) take0)))))⟩⟩
  · have e : k = b.M.length := by omega
    rw [e, List.take_length] at hos
    refine WP.exit <| WP.seq <| WP.region <| v0 (S0.move rfl) rfl <| v0 (S0.assign rfl) rfl <| vE <| WP.ret <| ?_
    refine Leaves.drop (h' := [orow, bkB bb lb v m (b.n : Int) :: (m, mapO (Value.int .i64) A ck) :: row]) (k := [krow]) (pm fun a_ => by (try simp only [List.flatten_append, List.flatten_cons, List.flatten_nil, List.append_nil, List.cons_append, List.nil_append, List.append_assoc, nOf_app, nOf_cons, nOf_nil, Nat.add_zero, Nat.zero_add, List.map_append, List.map_cons, List.map_nil, cel, sv]); first | done | omega) ?_
    refine r1 rfl rfl ?_
    exact ⟨orow, hos, rfl⟩
theorem badd_spec {bb lb : Nat} {b : Ct} {cc : List Blk} (h : IsCt bb lb b cc) (ho : CtW b) (hn : b.n ≤ 4000000000000) (e : Ev) : FN Tryz.prog 52 [ptrB bb, .agg ⟨evB e⟩] [cc] (fun _ h => ∃ cc', IsCt bb lb (addK b e) cc' ∧ h = [cc']) := by
  obtain ⟨v, row, m, A, ck, hs, hA, rfl⟩ := h
  obtain ⟨a, cap, rfl, hcap, -⟩ := IsSl.elems (k := 5) enN_len hs
  have hl := ho.len
  have hfl : (b.L.flatMap enN).length = b.L.length * 6 := flat_len enN_len _
  refine FN.intro 34 [(0, ptrB bb), (1, .agg ⟨evB e⟩)] Tryz.func52 rfl (enters Tryz.func52 (by kernel_rfl) rfl) Tryz.ntmps52 rfl rfl ?_
  refine WP.perm (h' := [[bkB bb lb (.slice a b.L.length cap) m (b.n : Int)], [(m, mapO (Value.int .i64) A ck)], row]) (k := []) (pm fun a_ => by (try simp only [List.flatten_append, List.flatten_cons, List.flatten_nil, List.append_nil, List.cons_append, List.nil_append, List.append_assoc, nOf_app, nOf_cons, nOf_nil, Nat.add_zero, Nat.zero_add, List.map_append, List.map_cons, List.map_nil, cel, sv]); first | done | omega) ?_
  refine WP.seq <| WP.region <| vn (S1.box rfl rfl) rfl fun b3 => vE <| WP.seq <| WP.region <| v0 (S0.move rfl) rfl <| v0 (S0.nilCheck rfl) rfl <| v0 (S0.fieldAddr rfl) rfl <| v0 (S0.load rfl rfl) rfl <| v0 (S0.ari rfl rfl rfl (wrap_i64 (by omega))) rfl <| v0 (S0.nilCheck rfl) rfl <| v0 (S0.fieldAddr rfl) rfl <| vs (S1.store rfl rfl (by first | rfl | exact IsSl.cv (by assumption))) <| vE <| ?_
  refine WP.seq <| WP.drawP [(0, none), (1, none), (2, none), (3, none), (4, none), (5, none), (6, none), (7, none), (8, none), (9, none), (10, none), (11, none), (12, none), (13, none), (14, none), (15, none)] mixed (by kernel_rfl) (by kernel_rfl) (by kernel_rfl) (take1 at0 (take1 at0 take0)) <| w0 rfl rfl rfl (S0.move rfl) rfl <| w0 rfl rfl rfl (S0.move rfl) rfl <| w0 rfl rfl rfl (S0.nilCheck rfl) rfl <| w0 rfl rfl rfl (S0.fieldAddr rfl) rfl <| w0 rfl rfl rfl (S0.load rfl rfl) rfl <| w0 rfl rfl rfl (S0.move rfl) rfl <| w0 rfl rfl rfl (S0.nilCheck rfl) rfl <| w0 rfl rfl rfl (S0.fieldAddr rfl) rfl <| w0 rfl rfl rfl (S0.load rfl rfl) rfl <| w0 rfl rfl rfl (S0.loadAL rfl) rfl <| w0 rfl rfl rfl (S0.build rfl (qs := [(0, _), (1, _)]) rfl) rfl <| wnv rfl rfl rfl rfl (S1.buildSlice rfl (qs := [(0, _)]) rfl rfl) rfl fun b22 => ?_
  rw [show (b.n : Int) + 1 = ((b.n + 1 : Nat) : Int) by omega]
  refine we rfl rfl rfl rfl (S1.appendL rfl hs rfl rfl (atS (atS at0)) rfl rfl (by rw [hfl]; simp; omega)) rfl ?_
  rintro v2 _ ⟨row2, hs2, rfl⟩
  refine w0 rfl rfl rfl (S0.nilCheck rfl) rfl <| w0 rfl rfl rfl (S0.fieldAddr rfl) rfl <| ?_
  refine wlast rfl (by kernel_rfl) rfl rfl (S1.store rfl rfl hs2.cv) ?_
  refine WP.drawP [(0, none), (1, none), (2, none), (3, none), (4, none), (5, none), (6, none), (7, none), (8, none)] mixed (by kernel_rfl) (by kernel_rfl) (by kernel_rfl) (take1 at0 (take1 at0 take0)) <| w0 rfl rfl rfl (S0.move rfl) rfl <| w0 rfl rfl rfl (S0.nilCheck rfl) rfl <| w0 rfl rfl rfl (S0.fieldAddr rfl) rfl <| w0 rfl rfl rfl (S0.load rfl rfl) rfl <| w0 rfl rfl rfl (S0.fieldAddr rfl) rfl <| w0 rfl rfl rfl (S0.load rfl rfl) rfl <| w0 rfl rfl rfl (S0.fieldAddr rfl) rfl <| w0 rfl rfl rfl (S0.load rfl rfl) rfl <| ?_
  refine ws rfl rfl rfl rfl (S1.mapUpdate (ek := Value.int .i64) (k := e.o) rfl rfl rfl) <| ?_
  refine wE <| ?_
  refine Leaves.drop (h' := [bkB bb lb v2 m ((b.n + 1 : Nat) : Int) :: (m, mapO (Value.int .i64) (putM A ck e.o (.int .i64 e.s)) (clkM A ck e.o)) :: row2]) (k := [[(b3, cel (evB e) 41)], [(b22, cel (enN (b.n + 1, e)) 102)]]) (pm fun a_ => by (try simp only [List.flatten_append, List.flatten_cons, List.flatten_nil, List.append_nil, List.cons_append, List.nil_append, List.append_assoc, nOf_app, nOf_cons, nOf_nil, Nat.add_zero, Nat.zero_add, List.map_append, List.map_cons, List.map_nil, cel, sv, bkB, enN, evB]); first | done | omega) ?_
  refine r0 rfl ?_
  refine ⟨_, ⟨v2, row2, m, _, _, ?_, hA.put (e.o, e.s), rfl⟩, rfl⟩
  show IsSl 102 6 v2 ((b.L ++ [(b.n + 1, e)]).flatMap enN) row2
  rw [List.flatMap_append]; exact hs2
theorem bwhy_spec {bb lb : Nat} {b : Ct} {cc : List Blk} (h : IsCt bb lb b cc) (ho : CtW b) {e : Ev} (ht : e.t.length ≤ 900000) : FN Tryz.prog 49 [ptrB bb, .agg ⟨evB e⟩] [cc] (is (.int .i64 (whyK b e)) [cc]) := by
  obtain ⟨v, row, m, A, ck, hs, hA, rfl⟩ := h
  obtain ⟨a, cap, rfl, hcap, -⟩ := IsSl.elems (k := 5) enN_len hs
  obtain ⟨hris, hlM⟩ := ho.ris
  have hlA := hA.len hris
  have hsz : (⟨List.map (entM (Value.int .i64)) A⟩ : Array MapEntry).size = b.M.length := by simp [hlA]
  refine FN.rest ?_
  refine FN.intro 50 [(0, ptrB bb), (1, .agg ⟨evB e⟩)] Tryz.func49 rfl (enters Tryz.func49 (by kernel_rfl) rfl) Tryz.ntmps49 rfl rfl ?_
  refine WP.seq <| WP.region <| vn (S1.box rfl rfl) rfl fun b3 => v0 (S0.assign rfl) rfl <| vE <| ?_
  refine WP.seq <| WP.drawP [(0, none), (1, none), (2, none), (3, none), (4, none), (5, none), (6, none), (7, none), (8, none), (9, none), (10, none), (11, none)] mixed (by kernel_rfl) (by kernel_rfl) (by kernel_rfl) (take1 at0 (take1 at0 take0)) <| w0 rfl rfl rfl (S0.move rfl) rfl <| w0 rfl rfl rfl (S0.nilCheck rfl) rfl <| w0 rfl rfl rfl (S0.fieldAddr rfl) rfl <| w0 rfl rfl rfl (S0.load rfl rfl) rfl <| w0 rfl rfl rfl (S0.fieldAddr rfl) rfl <| w0 rfl rfl rfl (S0.load rfl rfl) rfl <| ?_
  refine w0 rfl rfl rfl (S0.lookup2V (ek := Value.int .i64) (k := e.o) (v := .int .i64 (seqK b e.o)) rfl rfl (by rw [hA.ms, mk_getD]; rfl) (by rw [hA.ms, Option.isSome_map])) rfl <| ?_
  refine w0 rfl rfl rfl (S0.move rfl) rfl <| w0 rfl rfl rfl (S0.extract rfl rfl) rfl <| w0 rfl rfl rfl (S0.extract rfl rfl) rfl <| w0 rfl rfl rfl (S0.assign rfl) rfl <| w0 rfl rfl rfl (S0.assign rfl) rfl <| wE <| WP.seq <| WP.block <| WP.seq <| WP.region <| v0 (S0.loadAL rfl) rfl <| ?_
  refine vcd (S1.callF rfl (evRight_spec ht) take0) rfl ?_
  refine v0 (S0.not rfl) rfl <| v0 (S0.move rfl) rfl <| ?_
  cases hr : rightE e with
  | false =>
    refine csTh (t := 21) rfl (rfl) ?_
    refine gF rfl rfl <| gF rfl rfl <| gF rfl rfl <| v0 (S0.pickT rfl rfl) rfl <| v0 (S0.assign rfl) rfl <| vE <| WP.condT rfl <| WP.seq <| WP.region <| v0 (S0.assign rfl) rfl <| vE <| WP.ret <| ?_
    refine r1 rfl rfl ?_
    exact ⟨by unfold whyK; rw [if_pos (.inl hr)], [(b3, cel (evB e) 41)], (pm fun a_ => by (try simp only [List.flatten_append, List.flatten_cons, List.flatten_nil, List.append_nil, List.cons_append, List.nil_append, List.append_assoc, nOf_app, nOf_cons, nOf_nil, Nat.add_zero, Nat.zero_add, List.map_append, List.map_cons, List.map_nil, cel, sv]); first | done | omega)⟩
  | true =>
    refine csFh (t := 21) rfl (rfl) ?_
    have hb := rightE_bd hr
    refine gT rfl <| v0 (S0.fieldAddr rfl) rfl <| gT rfl <| v0 (S0.load rfl rfl) rfl <| gT rfl <| v0 (S0.cmp rfl rfl rfl) rfl <| v0 (S0.pickF rfl rfl) rfl <| v0 (S0.assign rfl) rfl <| vE <| ?_
    first | refine WP.condP rfl (fun h1 => ?_) (fun h1 => ?_) | refine WP.condN rfl (fun h1 => ?_) (fun h1 => ?_) | refine WP.cond rfl (fun h1 => ?_) (fun h1 => ?_)
    · refine WP.seq <| WP.region <| v0 (S0.assign rfl) rfl <| vE <| WP.ret <| ?_
      refine r1 rfl rfl ?_
      exact ⟨by unfold whyK; rw [if_pos (.inr (by omega))], [(b3, cel (evB e) 41)], (pm fun a_ => by (try simp only [List.flatten_append, List.flatten_cons, List.flatten_nil, List.append_nil, List.cons_append, List.nil_append, List.append_assoc, nOf_app, nOf_cons, nOf_nil, Nat.add_zero, Nat.zero_add, List.map_append, List.map_cons, List.map_nil, cel, sv]); first | done | omega)⟩
    · have hw : whyK b e = if e.s ≤ seqK b e.o then 11 else if 64 ≤ b.L.length ∨ ((mkO b.M e.o).isNone = true ∧ 32 ≤ b.M.length) then 7 else 0 := by
        unfold whyK; rw [if_neg (fun e' => e'.elim (fun q => by rw [hr] at q; cases q) (fun q => by omega))]
      refine WP.seq <| WP.region <| v0 (S0.fieldAddr rfl) rfl <| v0 (S0.load rfl rfl) rfl <| v0 (S0.move rfl) rfl <| v0 (S0.cmp rfl rfl rfl) rfl <| v0 (S0.assign rfl) rfl <| vE <| ?_
      first | refine WP.condP rfl (fun h2 => ?_) (fun h2 => ?_) | refine WP.condN rfl (fun h2 => ?_) (fun h2 => ?_) | refine WP.cond rfl (fun h2 => ?_) (fun h2 => ?_)
      · refine WP.seq <| WP.region <| v0 (S0.assign rfl) rfl <| vE <| WP.ret <| ?_
        refine r1 rfl rfl ?_
        exact ⟨by rw [hw, if_pos h2], [(b3, cel (evB e) 41)], (pm fun a_ => by (try simp only [List.flatten_append, List.flatten_cons, List.flatten_nil, List.append_nil, List.cons_append, List.nil_append, List.append_assoc, nOf_app, nOf_cons, nOf_nil, Nat.add_zero, Nat.zero_add, List.map_append, List.map_cons, List.map_nil, cel, sv]); first | done | omega)⟩
      · rw [if_neg h2] at hw
        refine WP.seq <| WP.region <| v0 (S0.move rfl) rfl <| v0 (S0.nilCheck rfl) rfl <| v0 (S0.fieldAddr rfl) rfl <| v0 (S0.load rfl rfl) rfl <| v0 (S0.lenSl rfl) rfl <| v0 (S0.cmp rfl rfl rfl) rfl <| v0 (S0.move rfl) rfl <| ?_
        first | refine csP (t := 38) rfl (fun h3 => ?_) (fun h3 => ?_) | refine csN (t := 38) rfl (fun h3 => ?_) (fun h3 => ?_) | refine cs (t := 38) rfl (fun h3 => ?_) (fun h3 => ?_)
        · refine gF rfl rfl <| gF rfl rfl <| gF rfl rfl <| gF rfl rfl <| gF rfl rfl <| gF rfl rfl <| gF rfl rfl <| gF rfl rfl <| gF rfl rfl <| gF rfl rfl <| v0 (S0.pickT rfl rfl) rfl <| v0 (S0.assign rfl) rfl <| vE <| WP.condT rfl <| WP.seq <| WP.region <| v0 (S0.assign rfl) rfl <| vE <| WP.ret <| ?_
          refine r1 rfl rfl ?_
          exact ⟨by rw [hw, if_pos (.inl (by omega))], [(b3, cel (evB e) 41)], (pm fun a_ => by (try simp only [List.flatten_append, List.flatten_cons, List.flatten_nil, List.append_nil, List.cons_append, List.nil_append, List.append_assoc, nOf_app, nOf_cons, nOf_nil, Nat.add_zero, Nat.zero_add, List.map_append, List.map_cons, List.map_nil, cel, sv]); first | done | omega)⟩
        · refine gT rfl <| v0 (S0.move rfl) rfl <| gT rfl <| v0 (S0.not rfl) rfl <| gT rfl <| v0 (S0.move rfl) rfl <| ?_
          cases hm : (mkO b.M e.o).isSome with
          | false =>
            have hno : (mkO b.M e.o).isNone = true := by cases hq : mkO b.M e.o <;> simp [hq] at hm ⊢
            refine csTh (t := 41) rfl (rfl) ?_
            refine gT rfl <| v0 (S0.move rfl) rfl <| gT rfl <| v0 (S0.nilCheck rfl) rfl <| gT rfl <| v0 (S0.fieldAddr rfl) rfl <| gT rfl <| v0 (S0.load rfl rfl) rfl <| gT rfl <| v0 (S0.lenM rfl) rfl <| gT rfl <| v0 (S0.cmp rfl rfl rfl) rfl <| gT rfl <| v0 (S0.pickT rfl rfl) rfl <| v0 (S0.pickF rfl rfl) rfl <| v0 (S0.assign rfl) rfl <| vE <| ?_
            first | refine WP.condP rfl (fun h4 => ?_) (fun h4 => ?_) | refine WP.condN rfl (fun h4 => ?_) (fun h4 => ?_) | refine WP.cond rfl (fun h4 => ?_) (fun h4 => ?_)
            · refine WP.seq <| WP.region <| v0 (S0.assign rfl) rfl <| vE <| WP.ret <| ?_
              refine r1 rfl rfl ?_
              exact ⟨by rw [hw, if_pos (.inr ⟨hno, by omega⟩)], [(b3, cel (evB e) 41)], (pm fun a_ => by (try simp only [List.flatten_append, List.flatten_cons, List.flatten_nil, List.append_nil, List.cons_append, List.nil_append, List.append_assoc, nOf_app, nOf_cons, nOf_nil, Nat.add_zero, Nat.zero_add, List.map_append, List.map_cons, List.map_nil, cel, sv]); first | done | omega)⟩
            · refine WP.skip <| WP.seq <| WP.region <| v0 (S0.assign rfl) rfl <| vE <| WP.ret <| ?_
              refine r1 rfl rfl ?_
              exact ⟨by rw [hw, if_neg (fun q => by omega)], [(b3, cel (evB e) 41)], (pm fun a_ => by (try simp only [List.flatten_append, List.flatten_cons, List.flatten_nil, List.append_nil, List.cons_append, List.nil_append, List.append_assoc, nOf_app, nOf_cons, nOf_nil, Nat.add_zero, Nat.zero_add, List.map_append, List.map_cons, List.map_nil, cel, sv]); first | done | omega)⟩
          | true =>
            have hno : ¬ (mkO b.M e.o).isNone = true := by cases hq : mkO b.M e.o <;> simp [hq] at hm ⊢
            refine csFh (t := 41) rfl (rfl) ?_
            refine gF rfl rfl <| gF rfl rfl <| gF rfl rfl <| gF rfl rfl <| gF rfl rfl <| gF rfl rfl <| gT rfl <| v0 (S0.pickF rfl rfl) rfl <| v0 (S0.pickF rfl rfl) rfl <| v0 (S0.assign rfl) rfl <| vE <| WP.condF rfl <| WP.skip <| WP.seq <| WP.region <| v0 (S0.assign rfl) rfl <| vE <| WP.ret <| ?_
            refine r1 rfl rfl ?_
            exact ⟨by rw [hw, if_neg (fun q => q.elim (fun q => by omega) (fun q => hno q.1))], [(b3, cel (evB e) 41)], (pm fun a_ => by (try simp only [List.flatten_append, List.flatten_cons, List.flatten_nil, List.append_nil, List.cons_append, List.nil_append, List.append_assoc, nOf_app, nOf_cons, nOf_nil, Nat.add_zero, Nat.zero_add, List.map_append, List.map_cons, List.map_nil, cel, sv]); first | done | omega)⟩
theorem ageL_snoc (L : List (Nat × Ev)) (x : Nat × Ev) (n : Int) : ageL (L ++ [x]) n = ageL L n ++ (if 0 < (ageE x.2 n).e then [(x.1, ageE x.2 n)] else []) := by
  unfold ageL
  rw [List.map_append, List.filter_append]
  congr 1
  simp only [List.map_cons, List.map_nil, List.filter_cons, List.filter_nil, decide_eq_true_eq]
theorem bage_spec {bb lb : Nat} {b : Ct} {cc : List Blk} (h : IsCt bb lb b cc) (ho : CtW b) {n : Int} (hn : n ≤ 1000) : FN Tryz.prog 58 [ptrB bb, .int .i64 n] [cc] (fun _ h => ∃ cc', IsCt bb lb (ageK b n) cc' ∧ h = [cc']) := by
  obtain ⟨v, row, m, A, ck, hs, hA, rfl⟩ := h
  obtain ⟨a, cap, rfl, hcap, hrow⟩ := IsSl.elems (k := 5) enN_len hs
  have hl := ho.len
  refine FN.intro 34 [(0, ptrB bb), (1, .int .i64 n)] Tryz.func58 rfl (enters Tryz.func58 (by kernel_rfl) rfl) Tryz.ntmps58 rfl rfl ?_
  refine WP.perm (h' := [[bkB bb lb (.slice a b.L.length cap) m (b.n : Int)], [(m, mapO (Value.int .i64) A ck)], row]) (k := []) (pm fun a_ => by (try simp only [List.flatten_append, List.flatten_cons, List.flatten_nil, List.append_nil, List.cons_append, List.nil_append, List.append_assoc, nOf_app, nOf_cons, nOf_nil, Nat.add_zero, Nat.zero_add, List.map_append, List.map_cons, List.map_nil, cel, sv]); first | done | omega) ?_
  refine WP.seq <| WP.region <| v0 (S0.assign rfl) rfl <| vE <| WP.seq <| WP.seq <| WP.region <| v0 (S0.move rfl) rfl <| v0 (S0.nilCheck rfl) rfl <| v0 (S0.fieldAddr rfl) rfl <| v0 (S0.load rfl rfl) rfl <| v0 (S0.lenSl rfl) rfl <| v0 (S0.move rfl) rfl <| vE <| WP.block <| ?_
  refine WP.loop (fun st : Nat × Value × List Blk => st.1 ≤ b.L.length ∧ IsSl 102 6 st.2.1 ((ageL (b.L.take st.1) n).flatMap enN) st.2.2) (fun st : Nat × Value × List Blk => [(0, ptrB bb), (1, .int .i64 n), (4, st.2.1), (10, .slice a b.L.length cap), (11, .int .i64 (b.L.length : Int)), (12, .int .i64 (st.1 : Int))]) (fun st : Nat × Value × List Blk => [st.2.2, row, [bkB bb lb (.slice a b.L.length cap) m (b.n : Int)], [(m, mapO (Value.int .i64) A ck)]]) (fun st : Nat × Value × List Blk => b.L.length - st.1) ((0, .slice none 0 0, [])) (⟨Nat.zero_le _, IsSl.nil⟩) ⟨rfl, rfl, rfl, rfl, rfl, rfl, trivial⟩ ⟨[], (pm fun a_ => by (try simp only [List.flatten_append, List.flatten_cons, List.flatten_nil, List.append_nil, List.cons_append, List.nil_append, List.append_assoc, nOf_app, nOf_cons, nOf_nil, Nat.add_zero, Nat.zero_add, List.map_append, List.map_cons, List.map_nil, cel, sv]); first | done | omega)⟩ (fun st hinv => ?_)
  obtain ⟨k, ov, orow⟩ := st
  obtain ⟨hk, hos⟩ := hinv
  dsimp only at hk hos ⊢
  refine WP.seq <| WP.region <| v0 (S0.cmp rfl rfl rfl) rfl <| vE <| WP.seq <| ?_
  first | refine WP.condP rfl (fun h1 => ?_) (fun h1 => ?_) | refine WP.condN rfl (fun h1 => ?_) (fun h1 => ?_) | refine WP.cond rfl (fun h1 => ?_) (fun h1 => ?_)
  · have hlt : k < b.L.length := by omega
    rcases hrow with ⟨e, -⟩ | ⟨b1, sp1, rfl, rfl, hsp1⟩
    · rw [e] at hlt; simp at hlt
    have hx : b.L[k]? = some b.L[k] := by simp [hlt]
    have hxm := ho.ev _ (List.getElem_mem hlt)
    generalize b.L[k] = x at hx hxm
    have gA := flat_take enN_len sp1 b.L k x hx
    have hxb := rightE_bd hxm.1
    have htk : b.L.take (k + 1) = b.L.take k ++ [x] := by rw [List.take_add_one, hx]; rfl
    have hsn := ageL_snoc (b.L.take k) x n
    rw [← htk] at hsn
    have hal := ageL_len (b.L.take k) n
    have htl : (b.L.take k).length ≤ 64 := by rw [List.length_take]; omega
    refine WP.skip <| WP.seq <| WP.block <| WP.seq <| WP.region <| ?_
    refine v0 (S0.indexN (k := 6) rfl rfl hlt) rfl <| ?_
    refine v0 (S0.loadA rfl gA rfl) rfl <| ?_
    refine vn (S1.alloc) rfl fun b6 => vs (S1.storeA rfl rfl rfl) <| vE <| WP.seq <| WP.region <| v0 (S0.fieldAddr rfl) rfl <| v0 (S0.loadAL rfl) rfl <| v0 (S0.move rfl) rfl <| ?_
    refine vcd (S1.callF rfl (eage_spec (e := x.2) (by omega) (n := n) (by omega)) take0) rfl ?_
    refine v0 (S0.fieldAddr rfl) rfl <| vs (S1.storeA rfl rfl rfl) <| vE <| WP.seq <| WP.region <| v0 (S0.fieldAddr rfl) rfl <| v0 (S0.fieldAddr rfl) rfl <| v0 (S0.load rfl rfl) rfl <| v0 (S0.cmp rfl rfl rfl) rfl <| vE <| ?_
    first | refine WP.condP rfl (fun h2 => ?_) (fun h2 => ?_) | refine WP.condN rfl (fun h2 => ?_) (fun h2 => ?_) | refine WP.cond rfl (fun h2 => ?_) (fun h2 => ?_)
    · rw [if_pos h2] at hsn
      refine WP.region <| v0 (S0.move rfl) rfl <| v0 (S0.loadAL rfl) rfl <| vnv (S1.buildSlice rfl (qs := [(0, _)]) rfl rfl) rfl fun b27 => ?_
      refine ve (S1.appendL rfl hos rfl rfl (atS (atS at0)) rfl rfl (by rw [flat_len enN_len]; simp; omega)) rfl ?_
      rintro v2 _ ⟨row2, hs2, rfl⟩
      have hs3 : IsSl 102 6 v2 ((ageL (b.L.take (k + 1)) n).flatMap enN) row2 := by
        rw [hsn, List.flatMap_append]; exact hs2
      refine v0 (S0.assign rfl) rfl <| vE <| WP.region <| v0 (S0.ari rfl rfl rfl (wrap_i64 (by omega))) rfl <| v0 (S0.move rfl) rfl <| vE <| ?_
      exact ⟨(k + 1, v2, row2), (by first | exact ⟨hlt, hs3⟩ | (dsimp only; exact ⟨hlt, hs3⟩)), (show b.L.length - (k + 1) < b.L.length - k by omega), ⟨⟨rfl, rfl, rfl, rfl, rfl, rfl, trivial⟩, rfl, rfl⟩, ⟨_, (take1 at0 (take1 (atS (atS at0)) (take1 (atS (atS at0)) (take1 (atS (atS at0)) take0))))⟩⟩
    · rw [if_neg h2, List.append_nil] at hsn
      refine WP.skip <| WP.region <| v0 (S0.ari rfl rfl rfl (wrap_i64 (by omega))) rfl <| v0 (S0.move rfl) rfl <| vE <| ?_
      exact ⟨(k + 1, ov, orow), (by first | exact ⟨hlt, by rw [hsn]; exact hos⟩ | (dsimp only; exact ⟨hlt, by rw [hsn]; exact hos⟩)), (show b.L.length - (k + 1) < b.L.length - k by omega), ⟨⟨rfl, rfl, rfl, rfl, rfl, rfl, trivial⟩, rfl, rfl⟩, ⟨_, (take1 (atS at0) (take1 (atS at0) (take1 (atS at0) (take1 (atS at0) take0))))⟩⟩
  · have e : k = b.L.length := by omega
    rw [e, List.take_length] at hos
    obtain ⟨a2, cap2, rfl, -, -⟩ := IsSl.elems (k := 5) enN_len hos
    refine WP.exit <| WP.region <| v0 (S0.move rfl) rfl <| v0 (S0.move rfl) rfl <| v0 (S0.nilCheck rfl) rfl <| v0 (S0.fieldAddr rfl) rfl <| vs (S1.store rfl rfl (by first | rfl | exact IsSl.cv (by assumption))) <| vE <| ?_
    refine Leaves.drop (h' := [bkB bb lb (.slice a2 (ageL b.L n).length cap2) m (b.n : Int) :: (m, mapO (Value.int .i64) A ck) :: orow]) (k := [row]) (pm fun a_ => by (try simp only [List.flatten_append, List.flatten_cons, List.flatten_nil, List.append_nil, List.cons_append, List.nil_append, List.append_assoc, nOf_app, nOf_cons, nOf_nil, Nat.add_zero, Nat.zero_add, List.map_append, List.map_cons, List.map_nil, cel, sv, bkB]); first | done | omega) ?_
    refine r0 rfl ?_
    exact ⟨_, ⟨_, orow, m, A, ck, hos, hA, rfl⟩, rfl⟩
end Go.Proofs.YtjpjebfodhbdfaaGreatDoor
namespace Go.Proofs.YtjpjebfodhbdfaaGreatDoor
open Go
theorem nilE : (#[] : Array MapEntry) = ⟨[]⟩ := rfl
theorem idxP_find {α : Type} (p : α → Bool) (l : List α) : (idxP p l < 0 ∧ l.find? p = none) ∨ ∃ i x, idxP p l = ((i : Nat) : Int) ∧ l[i]? = some x ∧ l.find? p = some x ∧ i < l.length ∧ ∀ j y, j < i → l[j]? = some y → p y = false := by
  unfold idxP
  cases h : l.findIdx? p with
  | none =>
    left
    rw [List.findIdx?_eq_none_iff] at h
    exact ⟨by simp, by rw [List.find?_eq_none]; intro x hx; simp [h x hx]⟩
  | some i =>
    right
    rw [List.findIdx?_eq_some_iff_getElem] at h
    obtain ⟨hlt, hp, hno⟩ := h
    refine ⟨i, l[i], rfl, by simp [hlt], ?_, hlt, fun j y hj hy => ?_⟩
    · rw [List.find?_eq_some_iff_getElem]
      exact ⟨hp, i, hlt, rfl, fun j hj => by simpa using hno j hj⟩
    · obtain ⟨hj2, rfl⟩ := List.getElem?_eq_some_iff.1 hy
      simpa using hno j hj
theorem idxFuncN {g : Nat} {caps : List Value} {cm : List Blk} {p : (Nat × Ev) → Bool} {l : List (Nat × Ev)} {v : Value} {row : List Blk} (hs : IsSl 102 6 v (l.flatMap enN) row) (hl : l.length ≤ 1000000) (hc : ∀ x ∈ l, FN Tryz.prog g (.agg ⟨enN x⟩ :: caps) [cm] (is (.bool (p x)) [cm])) :
    FN Tryz.prog 66 [v, .func (.func g) ⟨[]⟩ ⟨caps⟩] [row, cm] (is (.int .i64 (idxP p l)) [row, cm]) := by
  obtain ⟨a, cap, rfl, hcap, hrow⟩ := IsSl.elems (k := 5) enN_len hs
  refine FN.intro 19 [(0, .slice a l.length cap), (1, .func (.func g) ⟨[]⟩ ⟨caps⟩)] Tryz.func66 rfl (enters Tryz.func66 (by kernel_rfl) rfl) Tryz.ntmps66 rfl rfl ?_
  refine WP.seq <| WP.region <| v0 (S0.assign rfl) rfl <| vE <| WP.seq <| WP.seq <| WP.region <| v0 (S0.move rfl) rfl <| v0 (S0.lenSl rfl) rfl <| v0 (S0.move rfl) rfl <| vE <| WP.block <| ?_
  refine WP.loop (fun i : Nat => i ≤ l.length ∧ ∀ j y, j < i → l[j]? = some y → p y = false) (fun i : Nat => [(0, .slice a l.length cap), (1, .func (.func g) ⟨[]⟩ ⟨caps⟩), (7, .int .i64 (l.length : Int)), (8, .int .i64 (i : Int))]) (fun i : Nat => [row, cm]) (fun i : Nat => l.length - i) (0) (⟨by omega, fun j y hj => by omega⟩) ⟨rfl, rfl, rfl, rfl, trivial⟩ ⟨_, (take1 at0 (take1 at0 take0))⟩ (fun i hinv => ?_)
  obtain ⟨hi, hno⟩ := hinv
  refine WP.seq <| WP.region <| v0 (S0.cmp rfl rfl rfl) rfl <| vE <| WP.seq <| ?_
  first | refine WP.condP rfl (fun h1 => ?_) (fun h1 => ?_) | refine WP.condN rfl (fun h1 => ?_) (fun h1 => ?_) | refine WP.cond rfl (fun h1 => ?_) (fun h1 => ?_)
  · have hlt : i < l.length := by omega
    rcases hrow with ⟨rfl, -⟩ | ⟨b1, sp1, rfl, rfl, hsp1⟩
    · simp at hlt
    have hx : l[i]? = some l[i] := by simp [hlt]
    have gA := flat_take enN_len sp1 l i l[i] hx
    refine WP.skip <| WP.seq <| WP.block <| WP.seq <| WP.region <| v0 (S0.move rfl) rfl <| v0 (S0.assign rfl) rfl <| vE <| WP.seq <| WP.region <| v0 (S0.move rfl) rfl <| v0 (S0.move rfl) rfl <| v0 (S0.move rfl) rfl <| ?_
    refine v0 (S0.indexN (k := 6) rfl rfl hlt) rfl <| ?_
    refine v0 (S0.loadA rfl gA rfl) rfl <| ?_
    refine vcd (S1.callC rfl rfl rfl (hc l[i] (List.getElem_mem hlt)) (take1 (atS at0) take0)) rfl ?_
    refine vE <| ?_
    first | refine WP.condP rfl (fun h2 => ?_) (fun h2 => ?_) | refine WP.condN rfl (fun h2 => ?_) (fun h2 => ?_) | refine WP.cond rfl (fun h2 => ?_) (fun h2 => ?_)
    · refine WP.seq <| WP.region <| v0 (S0.move rfl) rfl <| v0 (S0.assign rfl) rfl <| vE <| WP.ret <| ?_
      refine Leaves.drop (take1 (atS at0) (take1 at0 take0)) ?_
      refine r1 rfl rfl ⟨?_, rfl⟩
      rw [idxP_at hno hx h2]
    · refine WP.skip <| WP.region <| v0 (S0.ari rfl rfl rfl (wrap_i64 (by omega))) rfl <| v0 (S0.move rfl) rfl <| vE <| ?_
      exact ⟨i + 1, (by first | exact ⟨hlt, below_succ (p := fun y => p y = false) hno hx h2⟩ | (dsimp only; exact ⟨hlt, below_succ (p := fun y => p y = false) hno hx h2⟩)), (show l.length - (i + 1) < l.length - i by omega), ⟨⟨rfl, rfl, rfl, rfl, trivial⟩, rfl, rfl⟩, ⟨_, (take1 (atS at0) (take1 at0 take0))⟩⟩
  · refine WP.exit <| WP.seq <| WP.region <| v0 (S0.assign rfl) rfl <| vE <| WP.ret <| ?_
    refine r1 rfl rfl ⟨?_, rfl⟩
    rw [idxP_none fun j y hj => hno j y (by omega)]
theorem idxFuncE {g : Nat} {caps : List Value} {cm : List Blk} {p : Ev → Bool} {l : List Ev} {v : Value} {row : List Blk} (hs : IsSl 41 5 v (evsB l) row) (hl : l.length ≤ 1000000) (hc : ∀ x ∈ l, FN Tryz.prog g (.agg ⟨evB x⟩ :: caps) [cm] (is (.bool (p x)) [cm])) :
    FN Tryz.prog 110 [v, .func (.func g) ⟨[]⟩ ⟨caps⟩] [row, cm] (is (.int .i64 (idxP p l)) [row, cm]) := by
  obtain ⟨a, cap, rfl, hcap, hrow⟩ := IsSl.elems (k := 4) evB_len hs
  refine FN.intro 19 [(0, .slice a l.length cap), (1, .func (.func g) ⟨[]⟩ ⟨caps⟩)] Tryz.func110 rfl (enters Tryz.func110 (by kernel_rfl) rfl) Tryz.ntmps110 rfl rfl ?_
  refine WP.seq <| WP.region <| v0 (S0.assign rfl) rfl <| vE <| WP.seq <| WP.seq <| WP.region <| v0 (S0.move rfl) rfl <| v0 (S0.lenSl rfl) rfl <| v0 (S0.move rfl) rfl <| vE <| WP.block <| ?_
  refine WP.loop (fun i : Nat => i ≤ l.length ∧ ∀ j y, j < i → l[j]? = some y → p y = false) (fun i : Nat => [(0, .slice a l.length cap), (1, .func (.func g) ⟨[]⟩ ⟨caps⟩), (7, .int .i64 (l.length : Int)), (8, .int .i64 (i : Int))]) (fun i : Nat => [row, cm]) (fun i : Nat => l.length - i) (0) (⟨by omega, fun j y hj => by omega⟩) ⟨rfl, rfl, rfl, rfl, trivial⟩ ⟨_, (take1 at0 (take1 at0 take0))⟩ (fun i hinv => ?_)
  obtain ⟨hi, hno⟩ := hinv
  refine WP.seq <| WP.region <| v0 (S0.cmp rfl rfl rfl) rfl <| vE <| WP.seq <| ?_
  first | refine WP.condP rfl (fun h1 => ?_) (fun h1 => ?_) | refine WP.condN rfl (fun h1 => ?_) (fun h1 => ?_) | refine WP.cond rfl (fun h1 => ?_) (fun h1 => ?_)
  · have hlt : i < l.length := by omega
    rcases hrow with ⟨rfl, -⟩ | ⟨b1, sp1, rfl, rfl, hsp1⟩
    · simp at hlt
    have hx : l[i]? = some l[i] := by simp [hlt]
    have gA := flat_take evB_len sp1 l i l[i] hx
    refine WP.skip <| WP.seq <| WP.block <| WP.seq <| WP.region <| v0 (S0.move rfl) rfl <| v0 (S0.assign rfl) rfl <| vE <| WP.seq <| WP.region <| v0 (S0.move rfl) rfl <| v0 (S0.move rfl) rfl <| v0 (S0.move rfl) rfl <| ?_
    refine v0 (S0.indexN (k := 5) rfl rfl hlt) rfl <| ?_
    refine v0 (S0.loadA rfl gA rfl) rfl <| ?_
    refine vcd (S1.callC rfl rfl rfl (hc l[i] (List.getElem_mem hlt)) (take1 (atS at0) take0)) rfl ?_
    refine vE <| ?_
    first | refine WP.condP rfl (fun h2 => ?_) (fun h2 => ?_) | refine WP.condN rfl (fun h2 => ?_) (fun h2 => ?_) | refine WP.cond rfl (fun h2 => ?_) (fun h2 => ?_)
    · refine WP.seq <| WP.region <| v0 (S0.move rfl) rfl <| v0 (S0.assign rfl) rfl <| vE <| WP.ret <| ?_
      refine Leaves.drop (take1 (atS at0) (take1 at0 take0)) ?_
      refine r1 rfl rfl ⟨?_, rfl⟩
      rw [idxP_at hno hx h2]
    · refine WP.skip <| WP.region <| v0 (S0.ari rfl rfl rfl (wrap_i64 (by omega))) rfl <| v0 (S0.move rfl) rfl <| vE <| ?_
      exact ⟨i + 1, (by first | exact ⟨hlt, below_succ (p := fun y => p y = false) hno hx h2⟩ | (dsimp only; exact ⟨hlt, below_succ (p := fun y => p y = false) hno hx h2⟩)), (show l.length - (i + 1) < l.length - i by omega), ⟨⟨rfl, rfl, rfl, rfl, trivial⟩, rfl, rfl⟩, ⟨_, (take1 (atS at0) (take1 at0 take0))⟩⟩
  · refine WP.exit <| WP.seq <| WP.region <| v0 (S0.assign rfl) rfl <| vE <| WP.ret <| ?_
    refine r1 rfl rfl ⟨?_, rfl⟩
    rw [idxP_none fun j y hj => hno j y (by omega)]
theorem after1_spec (x : Nat × Ev) (bp : Nat) (p : Int) : FN Tryz.prog 67 (.agg ⟨enN x⟩ :: [ptrB bp]) [[(bp, cel [.int .i64 p] 3)]] (is (.bool (decide (p < (x.1 : Int)))) [[(bp, cel [.int .i64 p] 3)]]) := by
  refine FN.rest ?_
  refine FN.intro 8 [(0, .agg ⟨enN x⟩), (1, ptrB bp)] Tryz.func67 rfl (enters Tryz.func67 (by kernel_rfl) rfl) Tryz.ntmps67 rfl rfl ?_
  refine WP.seq <| WP.region <| vn (S1.box rfl rfl) rfl fun b2 => v0 (S0.assign rfl) rfl <| vE <| WP.seq <| WP.region <| v0 (S0.fieldAddr rfl) rfl <| v0 (S0.load rfl rfl) rfl <| v0 (S0.load rfl rfl) rfl <| v0 (S0.cmp rfl rfl rfl) rfl <| v0 (S0.assign rfl) rfl <| vE <| WP.ret <| ?_
  refine r1 rfl rfl ?_
  exact ⟨rfl, [(b2, cel (enN x) 102)], (pm fun a_ => by (try simp only [List.flatten_append, List.flatten_cons, List.flatten_nil, List.append_nil, List.cons_append, List.nil_append, List.append_assoc, nOf_app, nOf_cons, nOf_nil, Nat.add_zero, Nat.zero_add, List.map_append, List.map_cons, List.map_nil, cel, sv]); first | done | omega)⟩
def aftV (b : Ct) (p : Int) : Value := match afterK b p with
  | none => .tuple ⟨[.agg ⟨evB ev0⟩, .int .i64 0, .bool false]⟩
  | some x => .tuple ⟨[.agg ⟨evB x.2⟩, .int .i64 (x.1 : Int), .bool true]⟩
theorem ent_ev (sp : List Value) {L : List (Nat × Ev)} {i : Nat} {x : Nat × Ev} (h : L[i]? = some x) : ((L.flatMap enN ++ sp).drop (i * 6 + 1)).take 5 = evB x.2 := by
  have := flat_take enN_len sp L i x h
  rw [← List.drop_drop, show 5 = 6 - 1 from rfl, ← List.drop_take]
  rw [this]; rfl
theorem bafter_spec {bb lb : Nat} {b : Ct} {cc : List Blk} (h : IsCt bb lb b cc) (ho : CtW b) (p : Int) : FN Tryz.prog 22 [ptrB bb, .int .i64 p] [cc] (is (aftV b p) [cc]) := by
  obtain ⟨v, row, m, A, ck, hs, hA, rfl⟩ := h
  have hs0 := hs
  obtain ⟨a, cap, rfl, hcap, hrow⟩ := IsSl.elems (k := 5) enN_len hs
  have hl := ho.len
  refine FN.rest ?_
  refine FN.intro 33 [(0, ptrB bb), (1, .int .i64 p)] Tryz.func22 rfl (enters Tryz.func22 (by kernel_rfl) rfl) Tryz.ntmps22 rfl rfl ?_
  refine WP.perm (h' := [[bkB bb lb (.slice a b.L.length cap) m (b.n : Int)], [(m, mapO (Value.int .i64) A ck)], row]) (k := []) (pm fun a_ => by (try simp only [List.flatten_append, List.flatten_cons, List.flatten_nil, List.append_nil, List.cons_append, List.nil_append, List.append_assoc, nOf_app, nOf_cons, nOf_nil, Nat.add_zero, Nat.zero_add, List.map_append, List.map_cons, List.map_nil, cel, sv]); first | done | omega) ?_
  refine WP.seq <| WP.region <| vn (S1.box rfl rfl) rfl fun b3 => vn (S1.alloc) rfl fun b4 => v0 (S0.assign rfl) rfl <| v0 (S0.assign rfl) rfl <| vE <| WP.seq <| WP.region <| v0 (S0.move rfl) rfl <| v0 (S0.nilCheck rfl) rfl <| v0 (S0.fieldAddr rfl) rfl <| v0 (S0.load rfl rfl) rfl <| v0 (S0.makeFunc rfl rfl) rfl <| ?_
  refine vcd (S1.callF rfl (idxFuncN (p := fun x => decide (p < (x.1 : Int))) hs0 (by omega) (fun x _ => after1_spec x b3 p)) (take1 (atS (atS (atS (atS at0)))) (take1 (atS at0) take0))) rfl ?_
  refine v0 (S0.assign rfl) rfl <| vE <| WP.seq <| WP.seq <| WP.region <| v0 (S0.move rfl) rfl <| v0 (S0.cmp rfl rfl rfl) rfl <| vE <| ?_
  rcases idxP_find (fun x : Nat × Ev => decide (p < (x.1 : Int))) b.L with ⟨hneg, hf⟩ | ⟨i, x, hi, hx, hf, hlt, -⟩
  · refine WP.condTh rfl ((by simpa using hneg)) ?_
    refine WP.seq <| WP.region <| v0 (S0.build rfl (qs := []) rfl) rfl <| vs (S1.storeA rfl rfl rfl) <| v0 (S0.assign rfl) rfl <| v0 (S0.assign rfl) rfl <| vE <| WP.ret <| ?_
    exact rce rfl rfl (load_agg (vs := [.int .i64 0, .int .i64 0, .string ByteArray.empty, .string ByteArray.empty, .int .i64 0]) (n := 5) (U := 41) (fz := (0, 0)) (by simp) rfl) rfl rfl
      ⟨by unfold aftV afterK; rw [hf]; rfl, [(b3, cel [.int .i64 p] 3), (b4, cel [.int .i64 0, .int .i64 0, .string ByteArray.empty, .string ByteArray.empty, .int .i64 0] 41)], (pm fun a_ => by (try simp only [List.flatten_append, List.flatten_cons, List.flatten_nil, List.append_nil, List.cons_append, List.nil_append, List.append_assoc, nOf_app, nOf_cons, nOf_nil, Nat.add_zero, Nat.zero_add, List.map_append, List.map_cons, List.map_nil, cel, sv]); first | done | omega)⟩
  · refine WP.condFh rfl ((by simp; omega)) ?_
    rw [hi]
    rcases hrow with ⟨e, -⟩ | ⟨b1, sp1, rfl, rfl, hsp1⟩
    · rw [e] at hlt; simp at hlt
    have g0 : (b.L.flatMap enN ++ sp1)[i * 6 + 0]? = some (.int .i64 (x.1 : Int)) := flat_get enN_len sp1 b.L i 0 x hx (by decide)
    refine WP.skip <| WP.seq <| WP.drawP [(0, none), (1, none), (2, none), (3, none), (4, none), (5, none), (6, none), (7, none), (8, none), (9, none), (10, none), (11, none), (12, none), (13, none), (14, none), (15, none), (16, none), (17, none), (18, none)] mixed (by kernel_rfl) (by kernel_rfl) (by kernel_rfl) (take1 at0 (take1 (atS (atS at0)) take0)) <| w0 rfl rfl rfl (S0.move rfl) rfl <| w0 rfl rfl rfl (S0.nilCheck rfl) rfl <| w0 rfl rfl rfl (S0.fieldAddr rfl) rfl <| w0 rfl rfl rfl (S0.load rfl rfl) rfl <| w0 rfl rfl rfl (S0.move rfl) rfl <| ?_
    refine w0 rfl rfl rfl (S0.indexN (k := 6) rfl rfl hlt) rfl <| ?_
    refine w0 rfl rfl rfl (S0.fieldAddr rfl) rfl <| ?_
    refine w0 rfl rfl rfl (S0.loadA rfl (ent_ev sp1 hx) rfl) rfl <| ?_
    refine w0 rfl rfl rfl (S0.move rfl) rfl <| w0 rfl rfl rfl (S0.nilCheck rfl) rfl <| w0 rfl rfl rfl (S0.fieldAddr rfl) rfl <| w0 rfl rfl rfl (S0.load rfl rfl) rfl <| w0 rfl rfl rfl (S0.move rfl) rfl <| ?_
    refine w0 rfl rfl rfl (S0.indexN (k := 6) rfl rfl hlt) rfl <| ?_
    refine w0 rfl rfl rfl (S0.fieldAddr rfl) rfl <| ?_
    refine w0 rfl rfl rfl (S0.load rfl g0) rfl <| ?_
    refine ws rfl rfl rfl rfl (S1.storeA rfl rfl rfl) <| w0 rfl rfl rfl (S0.assign rfl) rfl <| w0 rfl rfl rfl (S0.assign rfl) rfl <| wE <| WP.ret <| ?_
    exact rce rfl rfl (load_agg (vs := evB x.2) (n := 5) (U := 41) (fz := (0, 0)) (by simp) rfl) rfl rfl
      ⟨by unfold aftV afterK; rw [hf], [(b3, cel [.int .i64 p] 3), (b4, cel (evB x.2) 41)], (pm fun a_ => by (try simp only [List.flatten_append, List.flatten_cons, List.flatten_nil, List.append_nil, List.cons_append, List.nil_append, List.append_assoc, nOf_app, nOf_cons, nOf_nil, Nat.add_zero, Nat.zero_add, List.map_append, List.map_cons, List.map_nil, cel, sv, evB]); first | done | omega)⟩
theorem missing1_spec (e : Ev) {bc m : Nat} {A : ML Int} {ck : Nat} {had : Int → Int} (hA : ∀ o, (getM A o).getD (.int .i64 0) = .int .i64 (had o)) : FN Tryz.prog 69 (.agg ⟨evB e⟩ :: [ptrB bc]) [[(bc, cel [.map (some m)] 76), (m, mapO (Value.int .i64) A ck)]] (is (.bool (decide (e.s ≤ had e.o))) [[(bc, cel [.map (some m)] 76), (m, mapO (Value.int .i64) A ck)]]) := by
  refine FN.rest ?_
  refine FN.intro 11 [(0, .agg ⟨evB e⟩), (1, ptrB bc)] Tryz.func69 rfl (enters Tryz.func69 (by kernel_rfl) rfl) Tryz.ntmps69 rfl rfl ?_
  refine WP.seq <| WP.region <| vn (S1.box rfl rfl) rfl fun b2 => v0 (S0.assign rfl) rfl <| vE <| WP.seq <| WP.region <| v0 (S0.fieldAddr rfl) rfl <| v0 (S0.load rfl rfl) rfl <| v0 (S0.load rfl rfl) rfl <| v0 (S0.fieldAddr rfl) rfl <| v0 (S0.load rfl rfl) rfl <| ?_
  refine v0 (S0.lookupV (ek := Value.int .i64) (k := e.o) (v := .int .i64 (had e.o)) rfl rfl (hA e.o)) rfl <| ?_
  refine v0 (S0.cmp rfl rfl rfl) rfl <| v0 (S0.assign rfl) rfl <| vE <| WP.ret <| ?_
  refine r1 rfl rfl ?_
  exact ⟨rfl, [(b2, cel (evB e) 41)], (pm fun a_ => by (try simp only [List.flatten_append, List.flatten_cons, List.flatten_nil, List.append_nil, List.cons_append, List.nil_append, List.append_assoc, nOf_app, nOf_cons, nOf_nil, Nat.add_zero, Nat.zero_add, List.map_append, List.map_cons, List.map_nil, cel, sv]); first | done | omega)⟩
theorem flat_setA {α : Type} {en : α → List Value} {k : Nat} (hk : ∀ x, (en x).length = k) (sp : List Value) {R : List α} {i : Nat} {y : α} (h : i < R.length) : SetR (R.flatMap en ++ sp) (i * k) (en y) ((R.set i y).flatMap en ++ sp) := by
  have e1 : R = R.take i ++ R[i] :: R.drop (i + 1) := by rw [← List.drop_eq_getElem_cons h, List.take_append_drop]
  have e2 : R.set i y = R.take i ++ y :: R.drop (i + 1) := by rw [List.set_eq_take_append_cons_drop, if_pos h]
  have hl : ((R.take i).flatMap en).length = i * k := by rw [flat_len hk, List.length_take, Nat.min_eq_left (by omega)]
  have hX : R.flatMap en ++ sp = (R.take i).flatMap en ++ (en R[i] ++ ((R.drop (i + 1)).flatMap en ++ sp)) := by
    have := congrArg (fun Z : List α => Z.flatMap en ++ sp) e1
    rw [List.flatMap_append, List.flatMap_cons, List.append_assoc, List.append_assoc] at this
    exact this
  constructor
  constructor
  · rw [hX, ← hl, List.take_left, ← List.drop_drop, List.drop_left, hk y, ← hk R[i], List.drop_left, e2]
    simp
  · rw [List.length_append, flat_len hk, hk]
    have := Nat.mul_le_mul_right k h
    rw [Nat.succ_mul] at this; omega
theorem zerosE (n : Nat) : ∀ v ∈ (Builtin.zeroCells (Value.agg #[.int .i64 0, .int .i64 0, .string ByteArray.empty, .string ByteArray.empty, .int .i64 0]).cells n).toList, cellV v = true := by
  intro v hv
  simp only [Builtin.zeroCells, Value.cells, Array.toList_map, List.mem_map] at hv
  obtain ⟨j, -, rfl⟩ := hv
  have hq : j % 5 < 5 := Nat.mod_lt _ (by decide)
  show cellV (#[Value.int .i64 0, .int .i64 0, .string ByteArray.empty, .string ByteArray.empty, .int .i64 0][j % 5]!) = true
  generalize j % 5 = q at hq
  match q, hq with
  | 0, _ => rfl
  | 1, _ => rfl
  | 2, _ => rfl
  | 3, _ => rfl
  | 4, _ => rfl
theorem zerosE_len (n : Nat) : (Builtin.zeroCells (Value.agg #[.int .i64 0, .int .i64 0, .string ByteArray.empty, .string ByteArray.empty, .int .i64 0]).cells n).toList.length = n * 5 := by
  simp [Builtin.zeroCells, Value.cells]
theorem delE_spec {g : Nat} {caps : List Value} {cm : List Blk} {p : Ev → Bool} {l : List Ev} {v : Value} {row : List Blk} (hs : IsSl 41 5 v (evsB l) row) (hl : l.length ≤ 1000) (hc : ∀ x ∈ l, FN Tryz.prog g (.agg ⟨evB x⟩ :: caps) [cm] (is (.bool (p x)) [cm])) :
    FN Tryz.prog 68 [v, .func (.func g) ⟨[]⟩ ⟨caps⟩] [row, cm] (fun u h => ∃ row2, IsSl 41 5 u (evsB (l.filter fun x => !p x)) row2 ∧ h = [row2, cm]) := by
  have hs0 := hs
  obtain ⟨a, cap, rfl, hcap, hrow⟩ := IsSl.elems (k := 4) evB_len hs
  refine FN.intro 42 [(0, .slice a l.length cap), (1, .func (.func g) ⟨[]⟩ ⟨caps⟩)] Tryz.func68 rfl (enters Tryz.func68 (by kernel_rfl) rfl) Tryz.ntmps68 rfl rfl ?_
  refine WP.seq <| WP.region <| v0 (S0.assign rfl) rfl <| vE <| WP.seq <| WP.region <| v0 (S0.move rfl) rfl <| v0 (S0.move rfl) rfl <| ?_
  refine vcd (S1.callF rfl (idxFuncE (p := p) hs0 (by omega) hc) (take1 at0 (take1 at0 take0))) rfl ?_
  refine v0 (S0.assign rfl) rfl <| vE <| WP.seq <| WP.seq <| WP.region <| v0 (S0.move rfl) rfl <| v0 (S0.cmp rfl rfl rfl) rfl <| vE <| ?_
  rcases idxP_find p l with ⟨hneg, hf⟩ | ⟨i, x, hi, hx, hf, hlt, hno⟩
  · have e1 : idxP p l = -1 := by unfold idxP at hneg ⊢; cases hq : l.findIdx? p with | none => rfl | some j => rw [hq] at hneg; simp at hneg; omega
    have e2 : l.filter (fun x => !p x) = l := List.filter_eq_self.2 fun y hy => by have := List.find?_eq_none.1 hf y hy; simpa using this
    refine WP.condTh rfl ((by rw [e1]; rfl)) ?_
    refine WP.seq <| WP.region <| v0 (S0.move rfl) rfl <| v0 (S0.assign rfl) rfl <| vE <| WP.ret <| ?_
    refine r1 rfl rfl ?_
    rw [e2]; exact ⟨row, hs0, rfl⟩
  · refine WP.condFh rfl ((by rw [hi]; simp)) ?_
    rw [hi]
    have hpx : p x = true := List.find?_some hf
    rcases hrow with ⟨e, -⟩ | ⟨b1, sp1, rfl, rfl, hsp1⟩
    · rw [e] at hlt; simp at hlt
    have htk0 : l.take i = (l.take (i + 1)).filter fun x => !p x := by
      rw [List.take_add_one, hx, List.filter_append]
      have e1 : (l.take i).filter (fun x => !p x) = l.take i := List.filter_eq_self.2 fun y hy => by
        obtain ⟨j, hj, rfl⟩ := List.getElem_of_mem hy
        rw [List.length_take] at hj
        have := hno j l[j] (by omega) (List.getElem?_eq_getElem (by omega))
        rw [List.getElem_take, this]; rfl
      rw [e1]; simp [hpx]
    refine WP.skip <| WP.seq <| WP.seq <| WP.region <| v0 (S0.move rfl) rfl <| v0 (S0.ari rfl rfl rfl (wrap_i64 (by omega))) rfl <| v0 (S0.assign rfl) rfl <| vE <| WP.block <| ?_
    refine WP.loop (fun st : Nat × Nat × List Ev => st.1 < st.2.1 ∧ st.2.1 ≤ l.length ∧ st.2.2.length = l.length ∧ st.2.2.take st.1 = (l.take st.2.1).filter (fun x => !p x) ∧ st.2.2.drop st.2.1 = l.drop st.2.1) (fun st : Nat × Nat × List Ev => [(0, .slice (some ⟨b1, 0, none⟩) l.length cap), (1, .func (.func g) ⟨[]⟩ ⟨caps⟩), (5, .int .i64 (st.1 : Int)), (6, .int .i64 (st.2.1 : Int))]) (fun st : Nat × Nat × List Ev => [[(b1, .cells ⟨st.2.2.flatMap evB ++ sp1⟩ 41 (0, 0))], cm]) (fun st : Nat × Nat × List Ev => l.length - st.2.1) ((i, i + 1, l)) (⟨Nat.lt_succ_self i, hlt, rfl, htk0, rfl⟩) ⟨rfl, rfl, rfl, rfl, trivial⟩ ⟨_, (take1 at0 (take1 at0 take0))⟩ (fun st hinv => ?_)
    clear htk0 hno hx hi
    obtain ⟨i, j, R⟩ := st
    obtain ⟨hij, hj, hR, htk, hdr⟩ := hinv
    dsimp only at hij hj hR htk hdr ⊢
    refine WP.seq <| WP.seq <| WP.region <| v0 (S0.move rfl) rfl <| v0 (S0.move rfl) rfl <| v0 (S0.lenSl rfl) rfl <| v0 (S0.cmp rfl rfl rfl) rfl <| vE <| ?_
    first | refine WP.condP rfl (fun h1 => ?_) (fun h1 => ?_) | refine WP.condN rfl (fun h1 => ?_) (fun h1 => ?_) | refine WP.cond rfl (fun h1 => ?_) (fun h1 => ?_)
    · have hjl : j < l.length := by omega
      have hy : l[j]? = some l[j] := by simp [hjl]
      have hyR : R[j]? = some l[j] := by
        have := congrArg (fun Z : List Ev => Z[0]?) hdr
        simpa [hjl] using this
      have hcy := hc l[j] (List.getElem_mem hjl)
      have htk2 : (l.take (j + 1)).filter (fun x => !p x) = (l.take j).filter (fun x => !p x) ++ (if p l[j] = true then [] else [l[j]]) := by
        rw [List.take_add_one, hy, List.filter_append]
        cases hq : p l[j] <;> simp [hq]
      have hdr2 : R.drop (j + 1) = l.drop (j + 1) := by rw [← List.drop_drop, ← List.drop_drop, hdr]
      generalize l[j] = y at hy hyR hcy htk2
      have gA := flat_take evB_len sp1 R j y hyR
      refine WP.skip <| WP.seq <| WP.block <| WP.seq <| WP.region <| v0 (S0.move rfl) rfl <| v0 (S0.move rfl) rfl <| ?_
      refine v0 (S0.indexN (k := 5) rfl rfl hjl) rfl <| ?_
      refine v0 (S0.loadA rfl gA rfl) rfl <| ?_
      refine vn (S1.alloc) rfl fun b7 => vs (S1.storeA rfl rfl rfl) <| vE <| WP.seq <| WP.region <| v0 (S0.move rfl) rfl <| v0 (S0.loadAL rfl) rfl <| ?_
      refine vcd (S1.callC rfl rfl rfl (hcy) (take1 (atS (atS at0)) take0)) rfl ?_
      refine v0 (S0.not rfl) rfl <| vE <| ?_
      cases hq : p y with
      | false =>
        rw [hq, if_neg (by decide)] at htk2
        have hiR : i < R.length := by omega
        have hset := flat_setA (k := 4 + 1) evB_len sp1 (y := y) hiR
        have htk3 : (R.set i y).take (i + 1) = R.take i ++ [y] := by
          rw [List.take_add_one, List.take_set, List.set_eq_of_length_le (by rw [List.length_take]; omega), List.getElem?_set_self hiR]; rfl
        have hdr3 : (R.set i y).drop (j + 1) = l.drop (j + 1) := by rw [List.drop_set, if_pos (by omega)]; exact hdr2
        refine WP.condTh rfl (rfl) ?_
        refine WP.seq <| WP.region <| v0 (S0.move rfl) rfl <| v0 (S0.move rfl) rfl <| v0 (S0.loadAL rfl) rfl <| ?_
        refine v0 (S0.indexN (k := 5) rfl rfl (show i < l.length by omega)) rfl <| ?_
        refine vs (S1.storeA (l' := (R.set i y).flatMap evB ++ sp1) (hs := hset) rfl rfl rfl) <| ?_
        refine vE <| WP.region <| v0 (S0.move rfl) rfl <| v0 (S0.ari rfl rfl rfl (wrap_i64 (by omega))) rfl <| v0 (S0.assign rfl) rfl <| vE <| WP.region <| v0 (S0.move rfl) rfl <| v0 (S0.ari rfl rfl rfl (wrap_i64 (by omega))) rfl <| v0 (S0.assign rfl) rfl <| vE <| ?_
        exact ⟨(i + 1, j + 1, R.set i y), (by first | exact ⟨by omega, hjl, by rw [List.length_set]; exact hR, by rw [htk3, htk2, htk], hdr3⟩ | (dsimp only; exact ⟨by omega, hjl, by rw [List.length_set]; exact hR, by rw [htk3, htk2, htk], hdr3⟩)), (show l.length - (j + 1) < l.length - j by omega), ⟨⟨rfl, rfl, rfl, rfl, trivial⟩, rfl, rfl⟩, ⟨_, (take1 (atS (atS at0)) (take1 at0 take0))⟩⟩
      | true =>
        rw [hq, if_pos rfl, List.append_nil] at htk2
        refine WP.condFh rfl (rfl) ?_
        refine WP.skip <| WP.region <| v0 (S0.move rfl) rfl <| v0 (S0.ari rfl rfl rfl (wrap_i64 (by omega))) rfl <| v0 (S0.assign rfl) rfl <| vE <| ?_
        exact ⟨(i, j + 1, R), (by first | exact ⟨by omega, hjl, hR, by rw [htk2]; exact htk, hdr2⟩ | (dsimp only; exact ⟨by omega, hjl, hR, by rw [htk2]; exact htk, hdr2⟩)), (show l.length - (j + 1) < l.length - j by omega), ⟨⟨rfl, rfl, rfl, rfl, trivial⟩, rfl, rfl⟩, ⟨_, (take1 (atS (atS at0)) (take1 at0 take0))⟩⟩
    · have e : j = l.length := by omega
      subst e
      rw [List.take_length] at htk
      have hilt : i < l.length := hij
      have hci : ¬ cap = i := by omega
      have hfl : (R.flatMap evB).length = l.length * 5 := by rw [flat_len evB_len, hR]
      rw [List.length_append, flat_len evB_len] at hsp1
      refine WP.exit <| WP.seq <| WP.region <| v0 (S0.move rfl) rfl <| v0 (S0.move rfl) rfl <| ?_
      refine v0 (S0.slice (i := i) (j := l.length) rfl rfl rfl ⟨by omega, hcap⟩) rfl <| ?_
      rw [if_neg hci]
      refine vs (S1.clearSl (k := 5) rfl (by omega) (by rw [List.length_append, hfl]; omega) rfl (zerosE _)) <| ?_
      refine vE <| WP.seq <| WP.region <| v0 (S0.move rfl) rfl <| v0 (S0.move rfl) rfl <| ?_
      refine v0 (S0.sliceTo (j := i) rfl rfl (by omega)) rfl <| ?_
      refine v0 (S0.assign rfl) rfl <| vE <| WP.ret <| ?_
      have hzl := zerosE_len (l.length - i)
      generalize (Builtin.zeroCells (Value.agg #[.int .i64 0, .int .i64 0, .string ByteArray.empty, .string ByteArray.empty, .int .i64 0]).cells (l.length - i)).toList = Z at hzl
      have e1 : (R.flatMap evB ++ sp1).take (0 + i * 5) = evsB (l.filter fun x => !p x) := by
        have := flat_sub (k := 5) evB_len sp1 R 0 i (Nat.zero_le _) (by omega)
        simp only [Nat.zero_mul, List.drop_zero, Nat.sub_zero] at this
        rw [Nat.zero_add, this, htk]
      have e2 : (evsB (l.filter fun x => !p x)).length = i * 5 := by rw [← e1, List.length_take, List.length_append, hfl]; omega
      rw [e1, List.append_assoc]
      refine r1 rfl rfl ?_
      exact ⟨_, IsSl.row (n := i) (c := cap) (l := evsB (l.filter fun x => !p x)) e2 (by rw [List.length_append, List.length_append, e2, hzl, List.length_drop, List.length_append, hfl]; omega) (by omega), rfl⟩
theorem hadL_snoc (l : List MkT) (z : MkT) (o : Int) : hadL (l ++ [z]) o = if o = z.1 then z.2 else hadL l o := by
  unfold hadL
  rw [List.foldl_append]
  simp only [List.foldl_cons, List.foldl_nil]
  by_cases h : z.1 = o
  · rw [if_pos h, if_pos h.symm]
  · rw [if_neg h, if_neg (fun e => h e.symm)]
theorem bmissing_spec {bb lb : Nat} {b : Ct} {cc : List Blk} (h : IsCt bb lb b cc) (ho : CtW b) {l : List MkT} {mv : Value} {mrow : List Blk} (hms : Rd 2 enM mv l mrow) (hl : l.length ≤ 1000000) : FN Tryz.prog 25 [ptrB bb, mv] [cc, mrow] (fun u h => ∃ row, IsSl 41 5 u (evsB (missK b l)) row ∧ h = [row, cc, mrow]) := by
  obtain ⟨ma, mcap, rfl, hmcap, hmrow⟩ := hms
  refine FN.intro 25 [(0, ptrB bb), (1, .slice ma l.length mcap)] Tryz.func25 rfl (enters Tryz.func25 (by kernel_rfl) rfl) Tryz.ntmps25 rfl rfl ?_
  refine WP.seq <| WP.region <| v0 (S0.assign rfl) rfl <| vE <| WP.seq <| WP.region <| vnv (S1.makeMap) rfl fun b8 => vn (S1.alloc) rfl fun b5 => vs (S1.store rfl rfl (by first | rfl | exact IsSl.cv (by assumption))) <| vE <| WP.seq <| WP.seq <| WP.region <| v0 (S0.move rfl) rfl <| v0 (S0.lenSl rfl) rfl <| v0 (S0.move rfl) rfl <| vE <| WP.block <| ?_
  refine WP.loop (fun st : Nat × ML Int × Nat => st.1 ≤ l.length ∧ WfM st.2.1 st.2.2 ∧ ∀ o, (getM st.2.1 o).getD (.int .i64 0) = .int .i64 (hadL (l.take st.1) o)) (fun st : Nat × ML Int × Nat => [(0, ptrB bb), (5, .pointer (some ⟨b5, 0, none⟩)), (9, .slice ma l.length mcap), (10, .int .i64 (l.length : Int)), (11, .int .i64 (st.1 : Int))]) (fun st : Nat × ML Int × Nat => [[(b8, mapO (Value.int .i64) st.2.1 st.2.2)], [(b5, cel [.map (some b8)] 76)], mrow, cc]) (fun st : Nat × ML Int × Nat => l.length - st.1) ((0, [], 0)) (⟨Nat.zero_le _, WfM.nil, fun _ => rfl⟩) ⟨rfl, rfl, rfl, rfl, rfl, trivial⟩ ⟨[], (pm fun a_ => by (try simp only [List.flatten_append, List.flatten_cons, List.flatten_nil, List.append_nil, List.cons_append, List.nil_append, List.append_assoc, nOf_app, nOf_cons, nOf_nil, Nat.add_zero, Nat.zero_add, List.map_append, List.map_cons, List.map_nil, cel, sv, nilE, mapO]); first | done | omega)⟩ (fun st hinv => ?_)
  obtain ⟨k, A, ck⟩ := st
  obtain ⟨hk, hw, hg⟩ := hinv
  dsimp only at hk hw hg ⊢
  refine WP.seq <| WP.region <| v0 (S0.cmp rfl rfl rfl) rfl <| vE <| WP.seq <| ?_
  first | refine WP.condP rfl (fun h1 => ?_) (fun h1 => ?_) | refine WP.condN rfl (fun h1 => ?_) (fun h1 => ?_) | refine WP.cond rfl (fun h1 => ?_) (fun h1 => ?_)
  · have hlt : k < l.length := by omega
    rcases hmrow with rfl | ⟨b1, o1, GL, U1, fz1, rfl, hmem, hel⟩
    · simp at hlt
    have im : HasC mrow b1 (.cells ⟨GL⟩ U1 fz1) := ⟨hmem⟩
    have hx : l[k]? = some l[k] := by simp [hlt]
    generalize l[k] = x at hx
    have hg2 : ∀ o, (getM (putM A ck x.1 (.int .i64 x.2)) o).getD (.int .i64 0) = .int .i64 (hadL (l.take (k + 1)) o) := fun o => by
      rw [get_put, List.take_add_one, hx, Option.toList_some, hadL_snoc]
      by_cases e : o = x.1
      · rw [if_pos e, if_pos e]; rfl
      · rw [if_neg e, if_neg e]; exact hg o
    refine WP.skip <| WP.seq <| WP.block <| WP.seq <| WP.region <| ?_
    refine v0 (S0.indexO (k := 2) rfl rfl hlt) rfl <| ?_
    refine v0 (S0.loadA rfl (hel k x hx) rfl) rfl <| ?_
    refine vn (S1.alloc) rfl fun b7 => vs (S1.storeA rfl rfl rfl) <| vE <| WP.region <| v0 (S0.load rfl rfl) rfl <| v0 (S0.fieldAddr rfl) rfl <| v0 (S0.load rfl rfl) rfl <| v0 (S0.fieldAddr rfl) rfl <| v0 (S0.load rfl rfl) rfl <| ?_
    refine vs (S1.mapUpdate (ek := Value.int .i64) (k := x.1) rfl rfl rfl) <| ?_
    refine vE <| WP.region <| v0 (S0.ari rfl rfl rfl (wrap_i64 (by omega))) rfl <| v0 (S0.move rfl) rfl <| vE <| ?_
    exact ⟨(k + 1, putM A ck x.1 (.int .i64 x.2), clkM A ck x.1), (by first | exact ⟨hlt, hw.put _ _, hg2⟩ | (dsimp only; exact ⟨hlt, hw.put _ _, hg2⟩)), (show l.length - (k + 1) < l.length - k by omega), ⟨⟨rfl, rfl, rfl, rfl, rfl, trivial⟩, rfl, rfl⟩, ⟨_, (take1 (atS at0) (take1 (atS at0) (take1 (atS at0) (take1 (atS at0) take0))))⟩⟩
  · have e : k = l.length := by omega
    rw [e, List.take_length] at hg
    have hel : ((b.L.map (·.2)).length) ≤ 64 := by rw [List.length_map]; exact ho.len
    refine WP.exit <| WP.seq <| WP.region <| v0 (S0.move rfl) rfl <| ?_
    refine vc (S1.callF rfl (list_spec h ho) (take1 (atS (atS (atS at0))) take0)) rfl ?_
    rintro lv _ ⟨row, hls, rfl⟩
    refine app ?_
    refine v0 (S0.makeFunc rfl rfl) rfl <| ?_
    refine WO.perm (h' := [row, [(b5, cel [.map (some b8)] 76), (b8, mapO (Value.int .i64) A ck)], cc, mrow]) (k := []) (pm fun a_ => by (try simp only [List.flatten_append, List.flatten_cons, List.flatten_nil, List.append_nil, List.cons_append, List.nil_append, List.append_assoc, nOf_app, nOf_cons, nOf_nil, Nat.add_zero, Nat.zero_add, List.map_append, List.map_cons, List.map_nil, cel, sv]); first | done | omega) ?_
    refine vc (S1.callF rfl (delE_spec (p := fun e => decide (e.s ≤ hadL l e.o)) hls (by omega) (fun x _ => missing1_spec x hg)) (take1 at0 (take1 at0 take0))) rfl ?_
    rintro v2 _ ⟨row2, hs2, rfl⟩
    refine app ?_
    refine v0 (S0.assign rfl) rfl <| vE <| WP.ret <| ?_
    refine Leaves.drop (take1 at0 (take1 (atS at0) (take1 (atS at0) take0))) ?_
    refine r1 rfl rfl ?_
    refine ⟨row2, ?_, rfl⟩
    have e2 : missK b l = (b.L.map (·.2)).filter fun x => !decide (x.s ≤ hadL l x.o) := by
      unfold missK
      congr 1
      funext e
      rw [Bool.eq_iff_iff]; simp
    rw [e2]; exact hs2
theorem putE_le {e : Ev} (h : rightE e = true) : (putE e).length ≤ 300 := by
  obtain ⟨h1, h2⟩ := right_tl h
  have e0 : putE e = putV e.o.toNat ++ putV e.s.toNat ++ putV e.e.toNat ++ textB e.t ++ textB e.l := by unfold putE; rw [if_pos h]
  have a1 := putV_le e.o.toNat
  have a2 := putV_le e.s.toNat
  have a3 := putV_le e.e.toNat
  have a4 := putV_le e.t.length
  have a5 := putV_le e.l.length
  rw [e0]; simp only [textB, List.length_append]; omega
theorem entB_le {x : Nat × Ev} (h : rightE x.2 = true) : (entB x).length ≤ 309 := by
  have h1 := putE_le h
  have h2 := putV_le x.1
  unfold entB; rw [List.length_append]; omega
theorem ents_le : ∀ (L : List (Nat × Ev)), (∀ x ∈ L, rightE x.2 = true) → (L.flatMap entB).length ≤ 309 * L.length
  | [], _ => Nat.le_refl _
  | x :: L, h => by
    have h1 := ents_le L fun y hy => h y (by simp [hy])
    have h2 := entB_le (h x (by simp))
    rw [List.flatMap_cons, List.length_append, List.length_cons]; omega
theorem mksB_le (M : List MkT) : (marksB M).length ≤ 1000 := by
  unfold marksB
  by_cases h : sortedM M = true
  · rw [if_pos h]
    obtain ⟨-, -, h3⟩ := sortedM_iff.1 h
    have h1 := marksT_le h3 M.length
    rw [List.take_length] at h1
    have h2 := putV_le M.length
    rw [List.length_append]; omega
  · rw [if_neg h]; simp
theorem bbytes_spec {bb lb : Nat} {b : Ct} {cc : List Blk} (h : IsCt bb lb b cc) (ho : CtW b) (hn : b.n ≤ 4000000000000) : FN Tryz.prog 97 [ptrB bb] [cc] (is (sv (bytesK b)) [cc]) := by
  have h0 := h
  obtain ⟨v, row, m, A, ck, hs, hA, rfl⟩ := h
  obtain ⟨a, cap, rfl, hcap, hrow⟩ := IsSl.elems (k := 5) enN_len hs
  obtain ⟨hris, hlM⟩ := ho.ris
  have hl := ho.len
  have l1 := putV_le b.n
  have l2 := mksB_le b.M
  have l3 := putV_le b.L.length
  refine FN.rest ?_
  refine FN.intro 45 [(0, ptrB bb)] Tryz.func97 rfl (enters Tryz.func97 (by kernel_rfl) rfl) Tryz.ntmps97 rfl rfl ?_
  refine WP.seq <| WP.region <| v0 (S0.assign rfl) rfl <| vE <| ?_
  refine WP.seq <| WP.drawP [(0, none), (1, none), (2, none), (3, none), (4, none), (6, none), (10, none), (11, none), (12, none), (13, none), (14, none), (15, none), (5, none), (7, none), (8, none), (9, none), (16, none), (17, none), (18, none)] mixed (by kernel_rfl) (by kernel_rfl) (by kernel_rfl) (take1 at0 take0) <| w0 rfl rfl rfl (S0.move rfl) rfl <| w0 rfl rfl rfl (S0.nilCheck rfl) rfl <| w0 rfl rfl rfl (S0.fieldAddr rfl) rfl <| w0 rfl rfl rfl (S0.load rfl rfl) rfl <| w0 rfl rfl rfl (S0.convI rfl (wrap_u64 (by omega))) rfl <| w0 rfl rfl rfl (S0.move rfl) rfl <| w0 rfl rfl rfl (S0.move rfl) rfl <| w0 rfl rfl rfl (S0.nilCheck rfl) rfl <| w0 rfl rfl rfl (S0.fieldAddr rfl) rfl <| w0 rfl rfl rfl (S0.load rfl rfl) rfl <| w0 rfl rfl rfl (S0.lenSl rfl) rfl <| w0 rfl rfl rfl (S0.convI rfl (wrap_u64 (by omega))) rfl <| ?_
  refine wcd rfl rfl rfl rfl (S1.callF rfl (put_spec (n := b.n) (by omega)) take0) rfl ?_
  refine weS rfl rfl rfl rfl (S1.callF rfl (bmarks_spec h0 ho) (take1 at0 take0)) rfl ?_
  rintro _ _ ⟨_, ⟨mrow, hms, rfl⟩, rfl⟩
  refine ⟨_, (take1 (atS at0) take0), ?_⟩
  refine wcd rfl rfl rfl rfl (S1.callF rfl (marks_spec hms (by omega)) (take1 at0 take0)) rfl ?_
  refine w0 rfl rfl rfl (S0.addS rfl rfl (by omega)) rfl <| ?_
  refine wcd rfl rfl rfl rfl (S1.callF rfl (put_spec (n := b.L.length) (by omega)) take0) rfl ?_
  refine w0 rfl rfl rfl (S0.addS rfl rfl (by rw [List.length_append]; omega)) rfl <| ?_
  refine w0 rfl rfl rfl (S0.assign rfl) rfl <| wE <| WP.seq <| WP.seq <| WP.region <| v0 (S0.move rfl) rfl <| v0 (S0.nilCheck rfl) rfl <| v0 (S0.fieldAddr rfl) rfl <| v0 (S0.load rfl rfl) rfl <| v0 (S0.lenSl rfl) rfl <| v0 (S0.move rfl) rfl <| vE <| WP.block <| ?_
  rw [show putV b.n ++ marksB b.M ++ putV b.L.length = (putV b.n ++ marksB b.M ++ putV b.L.length) ++ (b.L.take 0).flatMap entB by simp]
  refine WP.loop (fun k : Nat => k ≤ b.L.length) (fun k : Nat => [(3, sv ((putV b.n ++ marksB b.M ++ putV b.L.length) ++ (b.L.take k).flatMap entB)), (27, .slice a b.L.length cap), (28, .int .i64 (b.L.length : Int)), (29, .int .i64 (k : Int))]) (fun k : Nat => [bkB bb lb (.slice a b.L.length cap) m (b.n : Int) :: (m, mapO (Value.int .i64) A ck) :: row]) (fun k : Nat => b.L.length - k) (0) (Nat.zero_le _) ⟨rfl, rfl, rfl, rfl, trivial⟩ ⟨_, (take1 at0 take0)⟩ (fun k hinv => ?_)
  have hte := ents_le (b.L.take k) fun y hy => (ho.ev y (List.mem_of_mem_take hy)).1
  have htl : (b.L.take k).length ≤ 64 := by rw [List.length_take]; omega
  refine WP.seq <| WP.region <| v0 (S0.cmp rfl rfl rfl) rfl <| vE <| WP.seq <| ?_
  first | refine WP.condP rfl (fun h1 => ?_) (fun h1 => ?_) | refine WP.condN rfl (fun h1 => ?_) (fun h1 => ?_) | refine WP.cond rfl (fun h1 => ?_) (fun h1 => ?_)
  · have hlt : k < b.L.length := by omega
    rcases hrow with ⟨e, -⟩ | ⟨b1, sp1, rfl, rfl, hsp1⟩
    · rw [e] at hlt; simp at hlt
    have hx : b.L[k]? = some b.L[k] := by simp [hlt]
    have hxm := ho.ev _ (List.getElem_mem hlt)
    generalize b.L[k] = x at hx hxm
    have gA := flat_take enN_len sp1 b.L k x hx
    have htk : (b.L.take (k + 1)).flatMap entB = (b.L.take k).flatMap entB ++ (putV x.1 ++ putE x.2) := by rw [List.take_add_one, hx]; simp
    obtain ⟨ht1, ht2⟩ := right_tl hxm.1
    have hpe := putE_le hxm.1
    have hpx := putV_le x.1
    refine WP.skip <| WP.seq <| WP.block <| WP.seq <| WP.region <| ?_
    refine v0 (S0.indexN (k := 6) rfl rfl hlt) rfl <| ?_
    refine v0 (S0.loadA rfl gA rfl) rfl <| ?_
    refine vn (S1.alloc) rfl fun b5 => vs (S1.storeA rfl rfl rfl) <| vE <| WP.drawP [(0, none), (1, none), (2, none), (3, none), (5, none), (6, none), (4, none), (7, none), (8, none), (9, none), (10, none)] mixed (by kernel_rfl) (by kernel_rfl) (by kernel_rfl) (take1 at0 take0) <| w0 rfl rfl rfl (S0.move rfl) rfl <| w0 rfl rfl rfl (S0.fieldAddr rfl) rfl <| w0 rfl rfl rfl (S0.load rfl rfl) rfl <| w0 rfl rfl rfl (S0.convI rfl (wrap_u64 (by omega))) rfl <| w0 rfl rfl rfl (S0.fieldAddr rfl) rfl <| w0 rfl rfl rfl (S0.loadAL rfl) rfl <| ?_
    refine wcd rfl rfl rfl rfl (S1.callF rfl (put_spec (n := x.1) (by omega)) take0) rfl ?_
    refine wcd rfl rfl rfl rfl (S1.callF rfl (eput_spec (e := x.2) (by omega) (by omega)) take0) rfl ?_
    refine w0 rfl rfl rfl (S0.addS rfl rfl (by omega)) rfl <| ?_
    refine w0 rfl rfl rfl (S0.addS rfl rfl (by simp only [List.length_append]; omega)) rfl <| ?_
    rw [List.append_assoc _ ((b.L.take k).flatMap entB), ← htk]
    refine w0 rfl rfl rfl (S0.assign rfl) rfl <| wE <| WP.region <| v0 (S0.ari rfl rfl rfl (wrap_i64 (by omega))) rfl <| v0 (S0.move rfl) rfl <| vE <| ?_
    exact ⟨k + 1, (by first | exact hlt | (dsimp only; exact hlt)), (show b.L.length - (k + 1) < b.L.length - k by omega), ⟨⟨rfl, rfl, rfl, rfl, trivial⟩, rfl, rfl⟩, ⟨_, (take1 (atS at0) take0)⟩⟩
  · have e : k = b.L.length := by omega
    rw [e, List.take_length]
    refine WP.exit <| WP.seq <| WP.region <| v0 (S0.move rfl) rfl <| v0 (S0.assign rfl) rfl <| vE <| WP.ret <| ?_
    refine r1 rfl rfl ?_
    exact ⟨rfl, [], (pm fun a_ => by (try simp only [List.flatten_append, List.flatten_cons, List.flatten_nil, List.append_nil, List.cons_append, List.nil_append, List.append_assoc, nOf_app, nOf_cons, nOf_nil, Nat.add_zero, Nat.zero_add, List.map_append, List.map_cons, List.map_nil, cel, sv]); first | done | omega)⟩
end Go.Proofs.YtjpjebfodhbdfaaGreatDoor
namespace Go.Proofs.YtjpjebfodhbdfaaGreatDoor
open Go
abbrev errF : Value := .iface 33 (.int .i64 4)
theorem must_spec (b : Bool) : FX Tryz.prog 84 [.bool b] [] (fun v h => b = true ∧ v = .tuple ⟨[]⟩ ∧ h = []) (fun v h => b = false ∧ v = errF ∧ h = []) := by
  refine FX.intro 5 [(0, .bool b)] Tryz.func84 rfl (enters Tryz.func84 (by kernel_rfl) rfl) Tryz.ntmps84 rfl rfl ?_
  refine WP.seq <| WP.region <| v0 (S0.move rfl) rfl <| v0 (S0.not rfl) rfl <| vE <| ?_
  cases b with
  | false =>
    refine WP.condTh rfl (rfl) ?_
    refine WP.region <| v0 (S0.mkI (by kernel_rfl) rfl) rfl <| ?_
    refine WO.panic rfl ?_
    exact ⟨rfl, _, rfl, rfl, rfl, rfl⟩
  | true =>
    refine WP.condFh rfl (rfl) ?_
    refine WP.skip <| ?_
    refine r0 rfl ?_
    exact ⟨rfl, rfl, rfl⟩
theorem numK_le {s : Str} {a n b : Nat} (h : numK s a = some (n, b)) : b ≤ s.length ∧ n ≤ 1099511627776 := by
  unfold numK at h
  split at h
  · rename_i hc
    obtain ⟨m, k, hg, hn, hk, hak, -⟩ := getV_ok hc.1
    have q1 : (getV s a).1 = (m : Int) := by rw [hg]
    have q2 : (getV s a).2.1 = ((a + k : Nat) : Int) := by rw [hg]
    rw [q1, q2] at h
    simp only [Int.toNat_natCast, Option.some.injEq, Prod.mk.injEq] at h
    have := hc.2
    omega
  · cases h
theorem bnum_spec {s : Str} {a : Nat} (hs : s.length ≤ 1000000) (ha : a ≤ s.length) : FX Tryz.prog 82 [sv s, .int .i64 (a : Int)] []
    (fun v h => ∃ n b, numK s a = some (n, b) ∧ v = .tuple ⟨[.int .i64 (n : Int), .int .i64 (b : Int)]⟩ ∧ h = []) (fun v h => numK s a = none ∧ v = errF ∧ h = []) := by
  refine FX.intro 26 [(0, sv s), (1, .int .i64 (a : Int))] Tryz.func82 rfl (enters Tryz.func82 (by kernel_rfl) rfl) Tryz.ntmps82 rfl rfl ?_
  refine WP.seq <| WP.region <| v0 (S0.assign rfl) rfl <| v0 (S0.assign rfl) rfl <| vE <| WP.seq <| WP.region <| v0 (S0.move rfl) rfl <| v0 (S0.move rfl) rfl <| ?_
  refine vcd (S1.callF rfl (get_spec hs (by omega)) take0) rfl ?_
  refine v0 (S0.move rfl) rfl <| v0 (S0.extract rfl rfl) rfl <| v0 (S0.extract rfl rfl) rfl <| v0 (S0.extract rfl rfl) rfl <| v0 (S0.assign rfl) rfl <| v0 (S0.assign rfl) rfl <| v0 (S0.assign rfl) rfl <| vE <| WP.seq <| WP.region <| v0 (S0.move rfl) rfl <| v0 (S0.cmp rfl rfl rfl) rfl <| v0 (S0.move rfl) rfl <| ?_
  first | refine csP (t := 18) rfl (fun h1 => ?_) (fun h1 => ?_) | refine csN (t := 18) rfl (fun h1 => ?_) (fun h1 => ?_) | refine cs (t := 18) rfl (fun h1 => ?_) (fun h1 => ?_)
  · obtain ⟨n, k, hg, hn, hk, hak, -⟩ := getV_ok h1
    have q1 : (getV s a).1 = (n : Int) := by rw [hg]
    have q2 : (getV s a).2.1 = ((a + k : Nat) : Int) := by rw [hg]
    have hd : numK s a = if (n : Int) ≤ 1099511627776 then some (n, a + k) else none := by
      unfold numK
      rw [q1, q2, Int.toNat_natCast, Int.toNat_natCast]
      by_cases h : (n : Int) ≤ 1099511627776
      · rw [if_pos ⟨h1, h⟩, if_pos h]
      · rw [if_neg (fun e => h e.2), if_neg h]
    rw [q1, q2]
    refine gT rfl <| v0 (S0.move rfl) rfl <| gT rfl <| v0 (S0.cmp rfl rfl rfl) rfl <| v0 (S0.pickT rfl rfl) rfl <| ?_
    refine vcX rfl (must_spec _) take0 rfl ?_ ?_
    · rintro _ _ ⟨hb, rfl, rfl⟩; exact ⟨rfl, _, rfl, by rw [hd, if_neg (by simpa using hb)], rfl, rfl⟩
    rintro _ _ ⟨hb, rfl, rfl⟩
    refine app ?_
    have hle : (n : Int) ≤ 1099511627776 := by simpa using hb
    refine vE <| WP.seq <| WP.region <| v0 (S0.move rfl) rfl <| v0 (S0.convI rfl (wrap_i64 (by omega))) rfl <| v0 (S0.move rfl) rfl <| v0 (S0.assign rfl) rfl <| v0 (S0.assign rfl) rfl <| vE <| WP.ret <| ?_
    refine r2 rfl rfl rfl ?_
    exact ⟨n, a + k, by rw [hd, if_pos hle], rfl, rfl⟩
  · have hd : numK s a = none := if_neg (fun e => h1 e.1)
    refine gF rfl rfl <| gF rfl rfl <| v0 (S0.pickF rfl rfl) rfl <| ?_
    refine vcX rfl (must_spec _) take0 rfl ?_ ?_
    · rintro _ _ ⟨hb, rfl, rfl⟩; exact ⟨rfl, _, rfl, hd, rfl, rfl⟩
    rintro _ _ ⟨hb, rfl, rfl⟩
    refine app ?_
    cases hb
theorem must_ok {b : Bool} (h : b = true) : FN Tryz.prog 84 [.bool b] [] (is (.tuple ⟨[]⟩) []) :=
  ((must_spec b).fn fun v h' q => by rw [h] at q; cases q.1).mono fun v h' q => ⟨q.2.1, q.2.2⟩
theorem bnum_ok {s : Str} {a n b : Nat} (hs : s.length ≤ 1000000) (ha : a ≤ s.length) (h : numK s a = some (n, b)) : FN Tryz.prog 82 [sv s, .int .i64 (a : Int)] [] (is (.tuple ⟨[.int .i64 (n : Int), .int .i64 (b : Int)]⟩) []) :=
  ((bnum_spec hs ha).fn fun v h' q => by rw [h] at q; cases q.1).mono fun v h' ⟨n', b', e, e2, e3⟩ => by
    rw [h] at e
    simp only [Option.some.injEq, Prod.mk.injEq] at e
    obtain ⟨rfl, rfl⟩ := e
    exact ⟨e2, e3⟩
theorem setMk_end {M : List MkT} {x : MkT} (h : ∀ z ∈ M, z.1 < x.1) : setMk M x = M ++ [x] := by
  unfold setMk
  have e1 : M.filter (fun z => decide (z.1 < x.1)) = M := List.filter_eq_self.2 fun z hz => by have := h z hz; simp [this]
  have e2 : M.filter (fun z => decide (x.1 < z.1)) = [] := List.filter_eq_nil_iff.2 fun z hz => by have := h z hz; simp; omega
  rw [e1, e2]
theorem ris_before {L : List MkT} (h : RisM L) {k : Nat} {x : MkT} (hx : L[k]? = some x) : ∀ z ∈ L.take k, z.1 < x.1 := by
  intro z hz
  obtain ⟨hk, rfl⟩ := List.getElem?_eq_some_iff.1 hx
  obtain ⟨j, hj, rfl⟩ := List.getElem_of_mem hz
  have hj2 : j < k := by rw [List.length_take] at hj; omega
  rw [List.getElem_take]
  exact List.pairwise_iff_getElem.1 h j k (by omega) hk hj2
theorem getE_ok {s : Str} {a : Nat} (ha : a ≤ s.length) (h : (getE s a).2.2 = 0) : rightE (getE s a).1 = true ∧ (getE s a).2.1 = ((getE s a).2.1.toNat : Int) ∧ (getE s a).2.1.toNat ≤ s.length := by
  have hle := numAt_le ha 3
  have hT := rdT_le (bad := (numAt s a 3).2) hle
  have hT2 := rdT_le (bad := (rdT s (numAt s a 3).1 (numAt s a 3).2).2.2) hT.1
  have hg : getE s a = if (rdT s (rdT s (numAt s a 3).1 (numAt s a 3).2).2.1 (rdT s (numAt s a 3).1 (numAt s a 3).2).2.2).2.2 ≠ 0 then (ev0, 0, (rdT s (rdT s (numAt s a 3).1 (numAt s a 3).2).2.1 (rdT s (numAt s a 3).1 (numAt s a 3).2).2.2).2.2) else if rightE ⟨numIs s a 0, numIs s a 1, (rdT s (numAt s a 3).1 (numAt s a 3).2).1, (rdT s (rdT s (numAt s a 3).1 (numAt s a 3).2).2.1 (rdT s (numAt s a 3).1 (numAt s a 3).2).2.2).1, numIs s a 2⟩ = false then (ev0, 0, 4) else (⟨numIs s a 0, numIs s a 1, (rdT s (numAt s a 3).1 (numAt s a 3).2).1, (rdT s (rdT s (numAt s a 3).1 (numAt s a 3).2).2.1 (rdT s (numAt s a 3).1 (numAt s a 3).2).2.2).1, numIs s a 2⟩, ((rdT s (rdT s (numAt s a 3).1 (numAt s a 3).2).2.1 (rdT s (numAt s a 3).1 (numAt s a 3).2).2.2).2.1 : Int), 0) := rfl
  generalize (rdT s (rdT s (numAt s a 3).1 (numAt s a 3).2).2.1 (rdT s (numAt s a 3).1 (numAt s a 3).2).2.2) = y at hg hT2
  rw [hg] at h ⊢
  split at h
  · rename_i hc; exact absurd h hc
  · rename_i hc
    rw [if_neg hc]
    split at h
    · cases h
    · rename_i hr
      rw [if_neg hr]
      exact ⟨by simpa using hr, by simp, by simpa using hT2.1⟩
theorem CtW.add {b : Ct} (h : CtW b) {e : Ev} (hw : whyK b e = 0) : CtW (addK b e) := by
  obtain ⟨h1, h2, h3, h4, h5⟩ := why_zero hw
  obtain ⟨m1, m2, m3⟩ := sortedM_iff.1 h.ms
  have hb := rightE_bd h1
  refine ⟨sortedM_iff.2 ⟨ris_set m1 _, fun z hz => ?_, ?_⟩, by simp [addK]; omega, fun x hx => ?_⟩
  · rcases set_mem hz with rfl | hz
    · exact ⟨hb.1.1, hb.1.2, hb.2.1.1, hb.2.1.2⟩
    · exact m2 z hz
  · show (setMk b.M (e.o, e.s)).length ≤ 32
    rw [set_len' m1]
    cases hm : mkO b.M e.o with
    | some n => exact m3
    | none =>
      rw [hm] at h5
      have := h5.resolve_left (by simp)
      simp only; omega
  · rcases List.mem_append.1 hx with hx | hx
    · have := h.ev x hx
      exact ⟨this.1, by show x.1 ≤ b.n + 1; omega⟩
    · simp at hx; subst hx; exact ⟨h1, Nat.le_refl _⟩
theorem CtW.age {b : Ct} (h : CtW b) (n : Int) : CtW (ageK b n) :=
  ⟨h.ms, Nat.le_trans (ageL_len _ _) h.len, fun x hx => by
    obtain ⟨y, hy, rfl, hp⟩ := ageL_mem hx
    exact ⟨age_right (h.ev y hy).1 hp, (h.ev y hy).2⟩⟩
end Go.Proofs.YtjpjebfodhbdfaaGreatDoor
