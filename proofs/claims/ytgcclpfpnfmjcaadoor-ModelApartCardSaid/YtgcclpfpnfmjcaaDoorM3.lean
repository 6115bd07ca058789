import Derived.Test.YtgcclpfpnfmjcaaDoorM2
namespace Go.Proofs.YtgcclpfpnfmjcaaDoor
open Go

/-- a map holds a function -/
structure RepK {κ : Type} [DecidableEq κ] (f : κ → Option Int) (L : ML κ) (ck : Nat) : Prop where
  wf : WfM L ck
  get : ∀ k, getM L k = (f k).map (Value.int .i64)
theorem RepK.put {κ : Type} [DecidableEq κ] {f : κ → Option Int} {L : ML κ} {ck : Nat} (h : RepK f L ck) (k : κ) (v : Int) : RepK (fun k' => if k' = k then some v else f k') (putM L ck k (.int .i64 v)) (clkM L ck k) :=
  ⟨h.wf.put _ _, fun k' => by rw [get_put, h.get]; split <;> rfl⟩
abbrev keyV (k : Key3) : Value := .agg ⟨[.int .i64 k.1, .int .i64 k.2.1, .int .i64 k.2.2]⟩
theorem key_eq (a b : Key3) : decide (a = b) = ((decide (a.1 = b.1) && (decide (a.2.1 = b.2.1) && true)) && (decide (a.2.2 = b.2.2) && true)) := by
  obtain ⟨a1, a2, a3⟩ := a
  obtain ⟨b1, b2, b3⟩ := b
  rw [Bool.eq_iff_iff]; simp [and_assoc]
instance whatKey : MKey Tryd.prog 65 keyV :=
  MKey.ofAg (n := 6) (m := 4) (en := fun k : Key3 => [.int .i64 k.1, .int .i64 k.2.1, .int .i64 k.2.2]) (by decide) (by decide) (fun a b => ⟨fun d hd fs h w => by
    rw [key_eq a b]; exact EqPl.run d hd fs h w⟩) (fun a => inferInstance) (fun a => by simp [Instr.sameBits])
theorem RepK.snoc {l : List Se} {L : ML Key3} {ck : Nat} (h : RepK (mostO l) L ck) (x : Se) : RepK (mostO (l ++ [x])) (putM L ck (keyS x) (.int .i64 (upM (mostO l (keyS x)) x.v.s))) (clkM L ck (keyS x)) :=
  ⟨h.wf.put _ _, fun k => by
    rw [get_put, mostO_snoc, h.get]
    by_cases hk : k = keyS x
    · subst hk; simp
    · rw [if_neg hk, if_neg (fun e => hk e.symm)]⟩

theorem idxFuncE {g : Nat} {caps : List Value} {c cm : List Blk} {p : Ev → Bool} {l : List Ev} {v : Value} (hr : Rd 5 evB v l c) (hl : l.length ≤ 1000000) (hc : ∀ x ∈ l, FN Tryd.prog g (.agg ⟨evB x⟩ :: caps) [cm] (is (.bool (p x)) [cm])) :
    FN Tryd.prog 50 [v, .func (.func g) ⟨[]⟩ ⟨caps⟩] [c, cm] (is (.int .i64 (idxP p l)) [c, cm]) := by
  obtain ⟨a, cap, rfl, hcap, hr⟩ := hr
  refine FN.intro 19 [(0, .slice a l.length cap), (1, .func (.func g) ⟨[]⟩ ⟨caps⟩)] Tryd.func50 rfl (enters Tryd.func50 (by kernel_rfl) rfl) Tryd.ntmps50 rfl rfl ?_
  refine WP.seq <| WP.region <| v0 (S0.assign rfl) rfl <| vE <| WP.seq <| WP.seq <| WP.region <| v0 (S0.move rfl) rfl <| v0 (S0.lenSl rfl) rfl <| v0 (S0.move rfl) rfl <| vE <| WP.block <| ?_  -- Code.loop
  refine WP.loop (fun i : Nat => i ≤ l.length ∧ ∀ j y, j < i → l[j]? = some y → p y = false) (fun i : Nat => [(0, .slice a l.length cap), (1, .func (.func g) ⟨[]⟩ ⟨caps⟩), (7, .int .i64 (l.length : Int)), (8, .int .i64 (i : Int))]) (fun i : Nat => [c, cm]) (fun i : Nat => l.length - i) (0) (⟨by omega, fun j y hj => by omega⟩) ⟨rfl, rfl, rfl, rfl, trivial⟩ ⟨_, (take1 at0 (take1 at0 take0))⟩ (fun i hinv => ?_) 
  obtain ⟨hi, hno⟩ := hinv
  refine WP.seq <| WP.region <| v0 (S0.cmp rfl rfl rfl) rfl <| vE <| WP.seq <| ?_  -- cond
  first | refine WP.condP rfl (fun h1 => ?_) (fun h1 => ?_) | refine WP.condN rfl (fun h1 => ?_) (fun h1 => ?_) | refine WP.cond rfl (fun h1 => ?_) (fun h1 => ?_)
  · skip
    have hlt : i < l.length := by omega
    rcases hr with e | ⟨b, o, GL, U, fz, rfl, hmem, hel⟩
    · rw [e] at hlt; simp at hlt
    have : HasC c b (.cells ⟨GL⟩ U fz) := ⟨hmem⟩
    have hx : l[i]? = some l[i] := by simp [hlt]
    have hcx := hc _ (List.getElem_mem hlt)
    generalize l[i] = x at hx hcx
    refine WP.skip <| WP.seq <| WP.block <| WP.seq <| WP.region <| v0 (S0.move rfl) rfl <| v0 (S0.assign rfl) rfl <| vE <| WP.seq <| WP.region <| v0 (S0.move rfl) rfl <| v0 (S0.move rfl) rfl <| v0 (S0.move rfl) rfl <| ?_  -- op t14 := indexAddr 22 t12 t13
    refine v0 (S0.indexO rfl rfl hlt) rfl <| ?_
    refine v0 (S0.loadA (vs := evB x) rfl (hel i x hx) rfl) rfl <| ?_
    -- (nothing to walk: op t16 := call t11(t15))
    refine vcd (S1.callC rfl rfl rfl (hcx) (take1 (atS at0) take0)) rfl ?_
    refine vE <| ?_  -- cond
    first | refine WP.condP rfl (fun h2 => ?_) (fun h2 => ?_) | refine WP.condN rfl (fun h2 => ?_) (fun h2 => ?_) | refine WP.cond rfl (fun h2 => ?_) (fun h2 => ?_)
    · skip
      refine WP.seq <| WP.region <| v0 (S0.move rfl) rfl <| v0 (S0.assign rfl) rfl <| vE <| WP.ret <| ?_  -- ret
      refine Leaves.drop (take1 (atS at0) (take1 at0 take0)) ?_
      refine r1 rfl rfl ⟨?_, rfl⟩
      rw [idxP_at hno hx h2]
    · skip
      refine WP.skip <| WP.region <| v0 (S0.ari rfl rfl rfl (wrap_i64 (by omega))) rfl <| v0 (S0.move rfl) rfl <| vE <| ?_  -- roundend
      exact ⟨i + 1, (by first | exact ⟨hlt, below_succ (p := fun y => p y = false) hno hx h2⟩ | (dsimp only; exact ⟨hlt, below_succ (p := fun y => p y = false) hno hx h2⟩)), (by omega), ⟨⟨rfl, rfl, rfl, rfl, trivial⟩, rfl, rfl⟩, ⟨_, (take1 (atS at0) (take1 at0 take0))⟩⟩
  · skip
    refine WP.exit <| WP.seq <| WP.region <| v0 (S0.assign rfl) rfl <| vE <| WP.ret <| ?_  -- ret
    refine r1 rfl rfl ⟨?_, rfl⟩
    rw [idxP_none fun j y hj => hno j y (by omega)]
theorem anyFuncE {g : Nat} {caps : List Value} {c cm : List Blk} {p : Ev → Bool} {l : List Ev} {v : Value} (hr : Rd 5 evB v l c) (hl : l.length ≤ 1000000) (hc : ∀ x ∈ l, FN Tryd.prog g (.agg ⟨evB x⟩ :: caps) [cm] (is (.bool (p x)) [cm])) :
    FN Tryd.prog 34 [v, .func (.func g) ⟨[]⟩ ⟨caps⟩] [c, cm] (is (.bool (l.any p)) [c, cm]) := by
  have hr' := hr
  obtain ⟨a, cap, rfl, hcap, hr⟩ := hr
  refine FN.intro 9 [(0, .slice a l.length cap), (1, .func (.func g) ⟨[]⟩ ⟨caps⟩)] Tryd.func34 rfl (enters Tryd.func34 (by kernel_rfl) rfl) Tryd.ntmps34 rfl rfl ?_
  refine WP.seq <| WP.region <| v0 (S0.assign rfl) rfl <| vE <| WP.seq <| WP.region <| v0 (S0.move rfl) rfl <| v0 (S0.move rfl) rfl <| ?_  -- op t7 := call F50{slices.IndexFunc[[]rivulet/api.Event,rivulet/api.Event]}(t5, t6)
  refine vcd (S1.callF rfl (idxFuncE hr' hl hc) (take1 at0 (take1 at0 take0))) rfl ?_
  refine v0 (S0.cmp rfl rfl rfl) rfl <| v0 (S0.assign rfl) rfl <| vE <| WP.ret <| ?_  -- ret
  refine r1 rfl rfl ⟨?_, rfl⟩
  rw [idxP_any]

theorem from_spec {b : Nat} (x : Se) (e : Ev) : FN Tryd.prog 32 [.agg ⟨evB e⟩, .pointer (some ⟨b, 0, none⟩)] [[(b, cel (seB x) 39)]] (is (.bool (sameE e x.v && decide (x.v.e ≤ e.e))) [[(b, cel (seB x) 39)]]) := by
  refine FN.intro 16 [(0, .agg ⟨evB e⟩), (1, .pointer (some ⟨b, 0, none⟩))] Tryd.func32 rfl (enters Tryd.func32 (by kernel_rfl) rfl) Tryd.ntmps32 rfl rfl ?_
  refine WP.seq <| WP.region <| vn (S1.box rfl rfl) rfl fun b2 => v0 (S0.assign rfl) rfl <| vE <| WP.seq <| WP.region <| v0 (S0.loadAL rfl) rfl <| v0 (S0.fieldAddr rfl) rfl <| v0 (S0.loadAL rfl) rfl <| ?_  -- op t7 := call F33{rivulet/event.Same}(t4, t6)
  refine vcd (S1.callF rfl (same_spec e x.v) take0) rfl ?_
  refine v0 (S0.move rfl) rfl <| ?_
  first | refine csP (t := 8) rfl (fun hq0 => ?_) (fun hq0 => ?_) | refine csN (t := 8) rfl (fun hq0 => ?_) (fun hq0 => ?_) | refine cs (t := 8) rfl (fun hq0 => ?_) (fun hq0 => ?_)
  ·
    refine gT rfl <| v0 (S0.fieldAddr rfl) rfl <| gT rfl <| v0 (S0.load rfl rfl) rfl <| gT rfl <| v0 (S0.fieldAddr rfl) rfl <| gT rfl <| v0 (S0.fieldAddr rfl) rfl <| gT rfl <| v0 (S0.load rfl rfl) rfl <| gT rfl <| v0 (S0.cmp rfl rfl rfl) rfl <| v0 (S0.pickT rfl rfl) rfl <| v0 (S0.assign rfl) rfl <| vE <| WP.ret <| ?_
    refine Leaves.drop (take1 (atS at0) take0) ?_
    refine r1 rfl rfl ⟨?_, rfl⟩
    exact congrArg Value.bool (by simp [*])
  ·
    refine gF rfl rfl <| gF rfl rfl <| gF rfl rfl <| gF rfl rfl <| gF rfl rfl <| gF rfl rfl <| v0 (S0.pickF rfl rfl) rfl <| v0 (S0.assign rfl) rfl <| vE <| WP.ret <| ?_
    refine Leaves.drop (take1 (atS at0) take0) ?_
    refine r1 rfl rfl ⟨?_, rfl⟩
    exact congrArg Value.bool (by simp [*])

/-- what the closure of Wrong keeps -/
def WSt (bg bt : Nat) (tv : Value) (pre : List Se) (cj : List Blk) : Prop := ∃ m L ck, RepK (mostO pre) L ck ∧ cj = [(bg, cel [.map (some m)] 60), (m, mapO keyV L ck), (bt, cel [tv] 22)]
theorem wrong1_spec {bg bt : Nat} {tv : Value} {t : List Ev} {ct cj : List Blk} {pre : List Se} (hr : Rd 5 evB tv t ct) (hl : t.length ≤ 1000000) (hj : WSt bg bt tv pre cj) (x : Se) :
    FN Tryd.prog 31 [.agg ⟨seB x⟩, .pointer (some ⟨bg, 0, none⟩), .pointer (some ⟨bt, 0, none⟩)] [cj, ct] (fun v h => v = .bool (wrongAt t pre x) ∧ ∃ cj', h = [cj', ct] ∧ WSt bg bt tv (pre ++ [x]) cj') := by
  obtain ⟨m, L, ck, hrep, rfl⟩ := hj
  have hput := hrep.snoc x
  have hget := hrep.get (keyS x)
  have hany := mostO_any pre (keyS x) x.v.s
  have hr' := hr
  obtain ⟨ta, tcap, rfl, htcap, hr⟩ := hr
  refine FN.intro 57 [(0, .agg ⟨seB x⟩), (1, .pointer (some ⟨bg, 0, none⟩)), (2, .pointer (some ⟨bt, 0, none⟩))] Tryd.func31 rfl (enters Tryd.func31 (by kernel_rfl) rfl) Tryd.ntmps31 rfl rfl ?_
  refine WP.seq <| WP.region <| vn (S1.box rfl rfl) rfl fun b3 => v0 (S0.assign rfl) rfl <| vE <| WP.seq <| WP.region <| v0 (S0.fieldAddr rfl) rfl <| v0 (S0.load rfl rfl) rfl <| v0 (S0.fieldAddr rfl) rfl <| v0 (S0.load rfl rfl) rfl <| v0 (S0.build rfl (qs := [(0, _), (1, _)]) rfl) rfl <| v0 (S0.fieldAddr rfl) rfl <| v0 (S0.fieldAddr rfl) rfl <| v0 (S0.load rfl rfl) rfl <| v0 (S0.build rfl (qs := [(0, _), (1, _)]) rfl) rfl <| vn (S1.alloc) rfl fun b5 => vs (S1.storeA rfl rfl rfl) <| vE <| WP.seq <| WP.region <| v0 (S0.load rfl rfl) rfl <| v0 (S0.loadAL rfl) rfl <| ?_  -- op t21 := lookup 60 t19 t20 true
  refine v0 (S0.lookup2 (ek := keyV) (k := keyS x) rfl rfl) rfl <| ?_
  rw [hget]
  cases hmo : mostO pre (keyS x) with
  | none =>
    rw [hmo] at hany hput
    simp only [Option.map_none, Option.getD_none, Option.isSome_none]
    skip
    skip
    refine v0 (S0.move rfl) rfl <| v0 (S0.extract rfl rfl) rfl <| v0 (S0.extract rfl rfl) rfl <| v0 (S0.assign rfl) rfl <| v0 (S0.assign rfl) rfl <| vE <| WP.seq <| WP.seq <| WP.region <| v0 (S0.move rfl) rfl <| v0 (S0.not rfl) rfl <| vE <| ?_  -- cond
    refine WP.condTh rfl (rfl) ?_
    refine WP.region <| v0 (S0.fieldAddr rfl) rfl <| v0 (S0.fieldAddr rfl) rfl <| v0 (S0.load rfl rfl) rfl <| v0 (S0.assign rfl) rfl <| vE <| WP.seq <| WP.region <| v0 (S0.load rfl rfl) rfl <| v0 (S0.loadAL rfl) rfl <| v0 (S0.move rfl) rfl <| v0 (S0.fieldAddr rfl) rfl <| v0 (S0.fieldAddr rfl) rfl <| v0 (S0.load rfl rfl) rfl <| v0 (S0.max2 rfl rfl rfl) rfl <| ?_  -- op mapUpdate 60 t29 t30 t35
    rw [show (if x.v.s > x.v.s then x.v.s else x.v.s) = x.v.s by simp]
    refine vs (S1.mapUpdate (ek := keyV) (k := keyS x) rfl rfl rfl) <| ?_
    refine vE <| WP.seq <| WP.region <| v0 (S0.makeFunc rfl rfl) rfl <| v0 (S0.assign rfl) rfl <| vE <| WP.seq <| WP.region <| v0 (S0.fieldAddr rfl) rfl <| v0 (S0.fieldAddr rfl) rfl <| v0 (S0.load rfl rfl) rfl <| v0 (S0.cmp rfl rfl rfl) rfl <| v0 (S0.move rfl) rfl <| ?_  -- guard t41 (wants False) at t42 := move t7 [if #4=False]
    first | refine csP (t := 41) rfl (fun h2 => ?_) (fun h2 => ?_) | refine csN (t := 41) rfl (fun h2 => ?_) (fun h2 => ?_) | refine cs (t := 41) rfl (fun h2 => ?_) (fun h2 => ?_)
    · skip
      refine gF rfl rfl <| gF rfl rfl <| gF rfl rfl <| gF rfl rfl <| gF rfl rfl <| gF rfl rfl <| gF rfl rfl <| gF rfl rfl <| v0 (S0.pickT rfl rfl) rfl <| v0 (S0.move rfl) rfl <| gF rfl rfl <| gF rfl rfl <| gF rfl rfl <| gF rfl rfl <| v0 (S0.pickT rfl rfl) rfl <| v0 (S0.assign rfl) rfl <| vE <| WP.ret <| ?_  -- ret
      refine Leaves.drop (take1 (atS (atS at0)) (take1 (atS (atS at0)) take0)) ?_
      refine r1 rfl rfl ?_
      exact ⟨by simp [wrongAt, h2], _, rfl, m, _, _, hput, rfl⟩
    · skip
      refine gT rfl <| v0 (S0.move rfl) rfl <| gT rfl <| v0 (S0.move rfl) rfl <| ?_  -- guard t43 (wants True) at t44 := move t6 [if #6=True]
      refine csFh (t := 43) rfl (rfl) ?_
      refine gF rfl rfl <| gF rfl rfl <| gF rfl rfl <| gF rfl rfl <| gF rfl rfl <| gT rfl <| v0 (S0.pickF rfl rfl) rfl <| v0 (S0.pickF rfl rfl) rfl <| v0 (S0.move rfl) rfl <| gT rfl <| v0 (S0.load rfl rfl) rfl <| gT rfl <| v0 (S0.move rfl) rfl <| ?_  -- op t54 := call F34{slices.ContainsFunc[[]rivulet/api.Event,rivulet/api.Event]}(t52, t53) [if #14=False]
      refine gT rfl <| vcd (S1.callF rfl (anyFuncE hr' hl (fun e _ => from_spec x e)) (take1 (atS (atS (atS at0))) (take1 (atS at0) take0))) rfl ?_
      refine gT rfl <| v0 (S0.not rfl) rfl <| v0 (S0.pickF rfl rfl) rfl <| v0 (S0.assign rfl) rfl <| vE <| WP.ret <| ?_  -- ret
      refine Leaves.drop (take1 (atS (atS (atS at0))) (take1 at0 take0)) ?_
      refine r1 rfl rfl ?_
      exact ⟨by simp [wrongAt, h2, ← hany, geM, fromB], _, rfl, m, _, _, hput, rfl⟩
  | some mo =>
    rw [hmo] at hany hput
    simp only [Option.map_some, Option.getD_some, Option.isSome_some]
    skip
    refine v0 (S0.move rfl) rfl <| v0 (S0.extract rfl rfl) rfl <| v0 (S0.extract rfl rfl) rfl <| v0 (S0.assign rfl) rfl <| v0 (S0.assign rfl) rfl <| vE <| WP.seq <| WP.seq <| WP.region <| v0 (S0.move rfl) rfl <| v0 (S0.not rfl) rfl <| vE <| ?_  -- cond
    refine WP.condFh rfl (rfl) ?_
    refine WP.skip <| WP.seq <| WP.region <| v0 (S0.load rfl rfl) rfl <| v0 (S0.loadAL rfl) rfl <| v0 (S0.move rfl) rfl <| v0 (S0.fieldAddr rfl) rfl <| v0 (S0.fieldAddr rfl) rfl <| v0 (S0.load rfl rfl) rfl <| v0 (S0.max2 rfl rfl rfl) rfl <| ?_  -- op mapUpdate 60 t29 t30 t35
    rw [show (if x.v.s > mo then x.v.s else mo) = upM (some mo) x.v.s by show _ = max mo x.v.s; split <;> omega]
    refine vs (S1.mapUpdate (ek := keyV) (k := keyS x) rfl rfl rfl) <| ?_
    refine vE <| WP.seq <| WP.region <| v0 (S0.makeFunc rfl rfl) rfl <| v0 (S0.assign rfl) rfl <| vE <| WP.seq <| WP.region <| v0 (S0.fieldAddr rfl) rfl <| v0 (S0.fieldAddr rfl) rfl <| v0 (S0.load rfl rfl) rfl <| v0 (S0.cmp rfl rfl rfl) rfl <| v0 (S0.move rfl) rfl <| ?_  -- guard t41 (wants False) at t42 := move t7 [if #4=False]
    first | refine csP (t := 41) rfl (fun h2 => ?_) (fun h2 => ?_) | refine csN (t := 41) rfl (fun h2 => ?_) (fun h2 => ?_) | refine cs (t := 41) rfl (fun h2 => ?_) (fun h2 => ?_)
    · skip
      refine gF rfl rfl <| gF rfl rfl <| gF rfl rfl <| gF rfl rfl <| gF rfl rfl <| gF rfl rfl <| gF rfl rfl <| gF rfl rfl <| v0 (S0.pickT rfl rfl) rfl <| v0 (S0.move rfl) rfl <| gF rfl rfl <| gF rfl rfl <| gF rfl rfl <| gF rfl rfl <| v0 (S0.pickT rfl rfl) rfl <| v0 (S0.assign rfl) rfl <| vE <| WP.ret <| ?_  -- ret
      refine Leaves.drop (take1 (atS (atS at0)) (take1 (atS (atS at0)) take0)) ?_
      refine r1 rfl rfl ?_
      exact ⟨by simp [wrongAt, h2], _, rfl, m, _, _, hput, rfl⟩
    · skip
      refine gT rfl <| v0 (S0.move rfl) rfl <| gT rfl <| v0 (S0.move rfl) rfl <| ?_  -- guard t43 (wants True) at t44 := move t6 [if #6=True]
      refine csTh (t := 43) rfl (rfl) ?_
      refine gT rfl <| v0 (S0.move rfl) rfl <| gT rfl <| v0 (S0.fieldAddr rfl) rfl <| gT rfl <| v0 (S0.fieldAddr rfl) rfl <| gT rfl <| v0 (S0.load rfl rfl) rfl <| gT rfl <| v0 (S0.cmp rfl rfl rfl) rfl <| gT rfl <| v0 (S0.pickT rfl rfl) rfl <| v0 (S0.pickF rfl rfl) rfl <| v0 (S0.move rfl) rfl <| ?_  -- guard t51 (wants False) at t52 := load 22 t2 [if #14=False]
      first | refine csP (t := 51) rfl (fun h3 => ?_) (fun h3 => ?_) | refine csN (t := 51) rfl (fun h3 => ?_) (fun h3 => ?_) | refine cs (t := 51) rfl (fun h3 => ?_) (fun h3 => ?_)
      · skip
        refine gF rfl rfl <| gF rfl rfl <| gF rfl rfl <| gF rfl rfl <| v0 (S0.pickT rfl rfl) rfl <| v0 (S0.assign rfl) rfl <| vE <| WP.ret <| ?_  -- ret
        refine Leaves.drop (take1 (atS (atS at0)) (take1 (atS (atS at0)) take0)) ?_
        refine r1 rfl rfl ?_
        exact ⟨by simp [wrongAt, ← hany, geM, h3], _, rfl, m, _, _, hput, rfl⟩
      · skip
        refine gT rfl <| v0 (S0.load rfl rfl) rfl <| gT rfl <| v0 (S0.move rfl) rfl <| ?_  -- op t54 := call F34{slices.ContainsFunc[[]rivulet/api.Event,rivulet/api.Event]}(t52, t53) [if #14=False]
        refine gT rfl <| vcd (S1.callF rfl (anyFuncE hr' hl (fun e _ => from_spec x e)) (take1 (atS (atS (atS at0))) (take1 (atS at0) take0))) rfl ?_
        refine gT rfl <| v0 (S0.not rfl) rfl <| v0 (S0.pickF rfl rfl) rfl <| v0 (S0.assign rfl) rfl <| vE <| WP.ret <| ?_  -- ret
        refine Leaves.drop (take1 (atS (atS (atS at0))) (take1 at0 take0)) ?_
        refine r1 rfl rfl ?_
        exact ⟨by simp [wrongAt, h2, ← hany, geM, h3, fromB], _, rfl, m, _, _, hput, rfl⟩
end Go.Proofs.YtgcclpfpnfmjcaaDoor
