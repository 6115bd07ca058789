import Derived.Test.YtgcclpfpnfmjcaaDoorM4
import Derived.Test.YtgcclpfpnfmjcaaDoorMo1
import Derived.Test.YtgcclpfpnfmjcaaDoorKeysM
import Derived.Test.YtgcclpfpnfmjcaaDoorKeysB
namespace Go.Proofs.YtgcclpfpnfmjcaaDoor
open Go

theorem isBy_pair (x : Se) (n d : Int) : (decide (x.n = n) && (decide (x.d = d) && true)) = isBy x n d := by simp [isBy]
/-- an origin that has its map, taken out of all -/
theorem NumOk.split {l : List Se} {n d : Int} {L : ML Int} {I : List In4} (h : NumOk l n d L I) {o : Int} (ho : o ∈ I.map (·.1)) : ∃ A q B, I = A ++ q :: B ∧ q.1 = o := by
  obtain ⟨q, hq, e⟩ := List.mem_map.1 ho
  obtain ⟨A, B, e2⟩ := List.append_of_mem hq
  exact ⟨A, q, B, e2, e⟩
theorem inn_has {A B : List In4} {q : In4} : HasC (inn (A ++ q :: B)) q.2.1 (mapO (Value.int .i64) q.2.2.1 q.2.2.2) := ⟨by simp [inn]⟩
theorem inn_upd {A B : List In4} {q : In4} {L' : ML Int} {ck' : Nat} : UpdC (inn (A ++ q :: B)) q.2.1 (mapO (Value.int .i64) q.2.2.1 q.2.2.2) (mapO (Value.int .i64) L' ck') (inn (A ++ (q.1, q.2.1, L', ck') :: B)) :=
  ⟨inn A, inn B, by simp [inn], by simp [inn]⟩

theorem numbers_spec {v : Value} {l : List Se} {c : List Blk} (hr : Rd 7 seB v l c) (hl : l.length ≤ 1000000) (n d : Int) : FN Tryd.prog 36 [v, .agg ⟨[.int .i64 n, .int .i64 d]⟩] [c] (fun v' h => ∃ mo cn, v' = .map (some mo) ∧ Num l n d mo cn ∧ h = [cn, c]) := by
  obtain ⟨a, cap, rfl, hcap, hr⟩ := hr
  refine FN.intro 43 [(0, .slice a l.length cap), (1, .agg ⟨[.int .i64 n, .int .i64 d]⟩)] Tryd.func36 rfl (enters Tryd.func36 (by kernel_rfl) rfl) Tryd.ntmps36 rfl rfl ?_
  refine WP.seq <| WP.region <| vn (S1.box rfl rfl) rfl fun b3 => v0 (S0.assign rfl) rfl <| vE <| WP.seq <| WP.region <| vnv (S1.makeMap) rfl fun b8 => v0 (S0.assign rfl) rfl <| vE <| WP.seq <| WP.seq <| WP.region <| v0 (S0.move rfl) rfl <| v0 (S0.lenSl rfl) rfl <| v0 (S0.move rfl) rfl <| vE <| WP.block <| ?_  -- Code.loop
  refine WP.loop (fun st : Nat × ML Int × Nat × List In4 => st.1 ≤ l.length ∧ WfM st.2.1 st.2.2.1 ∧ NumOk (l.take st.1) n d st.2.1 st.2.2.2) (fun st : Nat × ML Int × Nat × List In4 => [(3, .pointer (some ⟨b3, 0, none⟩)), (5, .map (some b8)), (9, .slice a l.length cap), (10, .int .i64 (l.length : Int)), (11, .int .i64 (st.1 : Int))]) (fun st : Nat × ML Int × Nat × List In4 => [(b8, mapO (Value.int .i64) st.2.1 st.2.2.1) :: inn st.2.2.2, [(b3, cel [.int .i64 n, .int .i64 d] 63)], c]) (fun st : Nat × ML Int × Nat × List In4 => l.length - st.1) ((0, [], 0, [])) (⟨Nat.zero_le _, .nil, .nil⟩) ⟨rfl, rfl, rfl, rfl, rfl, trivial⟩ ⟨_, (take1 at0 (take1 at0 (take1 at0 take0)))⟩ (fun st hinv => ?_) 
  obtain ⟨i, L, ck, I⟩ := st
  obtain ⟨hi, hwf, hnum⟩ := hinv
  dsimp only at hi hwf hnum ⊢
  refine WP.seq <| WP.region <| v0 (S0.cmp rfl rfl rfl) rfl <| vE <| WP.seq <| ?_  -- cond
  first | refine WP.condP rfl (fun h1 => ?_) (fun h1 => ?_) | refine WP.condN rfl (fun h1 => ?_) (fun h1 => ?_) | refine WP.cond rfl (fun h1 => ?_) (fun h1 => ?_)
  · skip
    have hlt : i < l.length := by omega
    rcases hr with e | ⟨b, o, GL, U, fz, rfl, hmem, hel⟩
    · rw [e] at hlt; simp at hlt
    have : HasC c b (.cells ⟨GL⟩ U fz) := ⟨hmem⟩
    have hx : l[i]? = some l[i] := by simp [hlt]
    generalize l[i] = x at hx
    have hele := hel i x hx
    refine WP.skip <| WP.seq <| WP.block <| WP.seq <| WP.region <| ?_  -- op t13 := indexAddr 23 t9 t11
    refine v0 (S0.indexO rfl rfl hlt) rfl <| ?_
    refine v0 (S0.loadA (vs := seB x) rfl hele rfl) rfl <| ?_
    refine vn (S1.alloc) rfl fun b7 => vs (S1.storeA rfl rfl rfl) <| vE <| WP.seq <| WP.seq <| WP.region <| v0 (S0.fieldAddr rfl) rfl <| v0 (S0.load rfl rfl) rfl <| v0 (S0.fieldAddr rfl) rfl <| v0 (S0.load rfl rfl) rfl <| v0 (S0.build rfl (qs := [(0, _), (1, _)]) rfl) rfl <| v0 (S0.loadAL rfl) rfl <| v0 (S0.eqAg rfl rfl rfl rfl) rfl <| vE <| ?_  -- cond
    rw [isBy_pair]
    first | refine WP.condP rfl (fun h2 => ?_) (fun h2 => ?_) | refine WP.condN rfl (fun h2 => ?_) (fun h2 => ?_) | refine WP.cond rfl (fun h2 => ?_) (fun h2 => ?_)
    · skip
      have h2' : isBy x n d = false := by simpa using h2
      refine WP.exit <| WP.region <| v0 (S0.ari rfl rfl rfl (wrap_i64 (by omega))) rfl <| v0 (S0.move rfl) rfl <| vE <| ?_  -- roundend
      exact ⟨(i + 1, L, ck, I), (by first | exact ⟨hlt, hwf, by rw [take_snoc hx]; exact hnum.skip h2'⟩ | (dsimp only; exact ⟨hlt, hwf, by rw [take_snoc hx]; exact hnum.skip h2'⟩)), (show l.length - (i + 1) < l.length - i by omega), ⟨⟨rfl, rfl, rfl, rfl, rfl, trivial⟩, rfl, rfl⟩, ⟨_, (take1 (atS at0) (take1 (atS at0) (take1 (atS at0) take0)))⟩⟩
    · skip
      have h2' : isBy x n d = true := by simpa using h2
      refine WP.skip <| WP.seq <| WP.seq <| WP.region <| v0 (S0.move rfl) rfl <| v0 (S0.fieldAddr rfl) rfl <| v0 (S0.fieldAddr rfl) rfl <| v0 (S0.load rfl rfl) rfl <| ?_  -- op t26 := lookup 71 t22 t25 false
      skip
      by_cases ho : x.v.o ∈ I.map (·.1)
      · skip
        obtain ⟨A, q, B, rfl, hq⟩ := hnum.split ho
        have hg : getM L x.v.o = some (.map (some q.2.1)) := by rw [← hq]; exact hnum.get q (by simp)
        have i1 := @inn_has A B q
        have i2 := @inn_upd A B q (putM q.2.2.1 q.2.2.2 x.v.s (.bool true)) (clkM q.2.2.1 q.2.2.2 x.v.s)
        refine v0 (S0.lookupS (ek := Value.int .i64) rfl rfl hg) rfl <| ?_
        refine v0 (S0.nilM rfl rfl rfl rfl) rfl <| vE <| ?_  -- cond
        refine WP.condFh rfl (rfl) ?_
        refine WP.skip <| WP.region <| v0 (S0.move rfl) rfl <| v0 (S0.fieldAddr rfl) rfl <| v0 (S0.fieldAddr rfl) rfl <| v0 (S0.load rfl rfl) rfl <| ?_  -- op t37 := lookup 71 t33 t36 false
        refine v0 (S0.lookupS (ek := Value.int .i64) rfl rfl hg) rfl <| ?_
        refine v0 (S0.fieldAddr rfl) rfl <| v0 (S0.fieldAddr rfl) rfl <| v0 (S0.load rfl rfl) rfl <| ?_  -- op mapUpdate 74 t37 t40 true
        refine vs (S1.mapUpdate (ek := Value.int .i64) rfl rfl rfl) <| ?_
        refine vE <| WP.region <| v0 (S0.ari rfl rfl rfl (wrap_i64 (by omega))) rfl <| v0 (S0.move rfl) rfl <| vE <| ?_  -- roundend
        exact ⟨(i + 1, L, ck, A ++ (q.1, q.2.1, putM q.2.2.1 q.2.2.2 x.v.s (.bool true), clkM q.2.2.1 q.2.2.2 x.v.s) :: B), (by first | exact ⟨hlt, hwf, by rw [take_snoc hx]; exact hnum.hit h2' hq⟩ | (dsimp only; exact ⟨hlt, hwf, by rw [take_snoc hx]; exact hnum.hit h2' hq⟩)), (show l.length - (i + 1) < l.length - i by omega), ⟨⟨rfl, rfl, rfl, rfl, rfl, trivial⟩, rfl, rfl⟩, ⟨_, (take1 (atS at0) (take1 (atS at0) (take1 (atS at0) take0)))⟩⟩
      · skip
        have hg : getM L x.v.o = none := hnum.non _ ho
        refine v0 (S0.lookupZ (ek := Value.int .i64) rfl rfl hg) rfl <| ?_
        refine v0 (S0.nilM rfl rfl rfl rfl) rfl <| vE <| ?_  -- cond
        refine WP.condTh rfl (rfl) ?_
        refine WP.region <| v0 (S0.move rfl) rfl <| v0 (S0.fieldAddr rfl) rfl <| v0 (S0.fieldAddr rfl) rfl <| v0 (S0.load rfl rfl) rfl <| vnv (S1.makeMap) rfl fun b32 => ?_  -- op mapUpdate 71 t28 t31 t32
        refine vs (S1.mapUpdate (ek := Value.int .i64) rfl rfl rfl) <| ?_
        refine WO.perm (h' := [[(b32, mapO (Value.int .i64) [] 0)], [(b7, cel (seB x) 39)], (b8, mapO (Value.int .i64) (putM L ck x.v.o (.map (some b32))) (clkM L ck x.v.o)) :: inn I, [(b3, cel [.int .i64 n, .int .i64 d] 63)], c]) (k := []) (List.Perm.of_eq (by first | rfl | simp)) ?_
        have hg2 : getM (putM L ck x.v.o (.map (some b32))) x.v.o = some (.map (some b32)) := by rw [get_put, if_pos rfl]
        refine vE <| WP.region <| v0 (S0.move rfl) rfl <| v0 (S0.fieldAddr rfl) rfl <| v0 (S0.fieldAddr rfl) rfl <| v0 (S0.load rfl rfl) rfl <| ?_  -- op t37 := lookup 71 t33 t36 false
        refine v0 (S0.lookupS (ek := Value.int .i64) rfl rfl hg2) rfl <| ?_
        refine v0 (S0.fieldAddr rfl) rfl <| v0 (S0.fieldAddr rfl) rfl <| v0 (S0.load rfl rfl) rfl <| ?_  -- op mapUpdate 74 t37 t40 true
        refine vs (S1.mapUpdate (ek := Value.int .i64) rfl rfl rfl) <| ?_
        refine vE <| WP.region <| v0 (S0.ari rfl rfl rfl (wrap_i64 (by omega))) rfl <| v0 (S0.move rfl) rfl <| vE <| ?_  -- roundend
        exact ⟨(i + 1, putM L ck x.v.o (.map (some b32)), clkM L ck x.v.o, I ++ [(x.v.o, b32, putM [] 0 x.v.s (.bool true), clkM [] 0 x.v.s)]), (by first | exact ⟨hlt, hwf.put _ _, by rw [take_snoc hx]; exact hnum.new h2' ho b32⟩ | (dsimp only; exact ⟨hlt, hwf.put _ _, by rw [take_snoc hx]; exact hnum.new h2' ho b32⟩)), (show l.length - (i + 1) < l.length - i by omega), ⟨⟨rfl, rfl, rfl, rfl, rfl, trivial⟩, rfl, rfl⟩, ⟨[[(b7, cel (seB x) 39)]], (take1 (atS (atS at0)) (take1 at0 (take1 (atS at0) (take1 (atS at0) take0)))).trans (List.Perm.of_eq (by simp [inn]))⟩⟩
  · skip
    rw [List.take_of_length_le (by omega)] at hnum
    refine WP.exit <| WP.seq <| WP.region <| v0 (S0.move rfl) rfl <| v0 (S0.assign rfl) rfl <| vE <| WP.ret <| ?_  -- ret
    refine Leaves.drop (take1 at0 (take1 (atS at0) take0)) ?_
    refine r1 rfl rfl ?_
    exact ⟨b8, _, rfl, ⟨L, ck, I, hwf, hnum, rfl⟩, rfl⟩
end Go.Proofs.YtgcclpfpnfmjcaaDoor
