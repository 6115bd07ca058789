import Derived.Test.YtipljeomgdomnaaGreatDoorK3
import Derived.Test.YtipljeomgdomnaaGreatDoorK2
set_option linter.unusedSimpArgs false
set_option linter.unusedVariables false
set_option linter.unnecessarySimpa false
/- W9 -/
namespace Go.Proofs.YtipljeomgdomnaaGreatDoor
open Go

theorem less_tells {t : HT} {L : Asks} (h : Tells t L) {f : Str} {i : Int} (hok : okA f i = true) (hn : 1 < hasK L f i) {b mk ma ck ca : Nat} {E : AL} {K : HF} (hs : HT.sub (levels f) t = some (.nd b mk ma ck ca E K)) :
    Tells (HT.put (levels f) t (.nd b mk ma ck (clkM (aml E) ca i) (putA E ca i (hasK L f i - 1)) K)) (lessK L f i) := by
  have hsw := HT.sub_wf hs h.wf
  simp only [HT.wf] at hsw
  simp only [okA, Bool.and_eq_true, decide_eq_true_eq] at hok
  refine h.upd hs (by rw [aml_put]; exact hsw.2.1.put _ _) (putA_pos hsw.2.2.1 (by omega)) (h.ok.less hok.1 hok.2) (fun j => ?_) (fun g j hg => ?_)
  · rw [getA_put, has_less h.ok f i (by omega), h.node hs]
    by_cases e : j = i <;> simp [e]
  · rw [has_less h.ok f i (by omega), if_neg (fun e => hg e.1)]
theorem putA_keys (E : AL) (ca : Nat) (i v : Int) (h : (E.map (·.1)).Nodup) : ((putA E ca i v).map (·.1)).Nodup := by
  unfold putA
  split
  · rename_i hm
    have : ∀ E : AL, (setA E i v).map (·.1) = E.map (·.1) := by
      intro E
      induction E with
      | nil => rfl
      | cons x E ih => simp only [setA]; split <;> simp_all
    rw [this]; exact h
  · rename_i hm
    rw [List.map_append, List.nodup_append]
    exact ⟨h, by simp, fun a ha b hb e => by simp at hb; subst hb; subst e; exact hm ha⟩
theorem del_pos {E : AL} {ca : Nat} {i v : Int} (h : ∀ x ∈ E, 0 < x.2.1) (hn : (E.map (·.1)).Nodup) : ∀ x ∈ delA (putA E ca i v) i, 0 < x.2.1 := fun x hx => by
  have hk := delA_keys (putA E ca i v) i (putA_keys E ca i v hn)
  have hxm : x.1 ∈ (delA (putA E ca i v) i).map (·.1) := List.mem_map.2 ⟨x, hx, rfl⟩
  have hne : x.1 ≠ i := fun e => by rw [e] at hxm; exact hk hxm
  have hm := (delA_sub _ _).subset hx
  have key : ∀ E : AL, (∀ x ∈ E, 0 < x.2.1) → ∀ x ∈ setA E i v, x.1 ≠ i → 0 < x.2.1 := by
    intro E
    induction E with
    | nil => intro _ x hx; cases hx
    | cons y E ih =>
      intro h x hx hne
      simp only [setA] at hx
      split at hx
      · rcases List.mem_cons.1 hx with rfl | hx
        · exact absurd rfl hne
        · exact h x (List.mem_cons_of_mem _ hx)
      · rcases List.mem_cons.1 hx with rfl | hx
        · exact h _ List.mem_cons_self
        · exact ih (fun z hz => h z (List.mem_cons_of_mem _ hz)) x hx hne
  unfold putA at hm
  split at hm
  · exact key E h x hm hne
  · rcases List.mem_append.1 hm with hm | hm
    · exact h x hm
    · simp at hm; subst hm; exact absurd rfl hne
theorem gone_tells {t : HT} {L : Asks} (h : Tells t L) {f : Str} {i : Int} (hok : okA f i = true) (hn : hasK L f i = 1) {b mk ma ck ca : Nat} {E : AL} {K : HF} (hs : HT.sub (levels f) t = some (.nd b mk ma ck ca E K)) (v : Int) :
    Tells (HT.put (levels f) t (.nd b mk ma ck (clkM (aml E) ca i) (delA (putA E ca i v) i) K)) (lessK L f i) := by
  have hsw := HT.sub_wf hs h.wf
  simp only [HT.wf] at hsw
  simp only [okA, Bool.and_eq_true, decide_eq_true_eq] at hok
  have hek : (E.map (·.1)).Nodup := by have := hsw.2.1.keys; rwa [aml_keys] at this
  refine h.upd hs (by rw [aml_del, aml_put]; exact (hsw.2.1.put _ _).del _) (del_pos hsw.2.2.1 hek) (h.ok.less hok.1 hok.2) (fun j => ?_) (fun g j hg => ?_)
  · rw [getA_del (putA_keys E ca i v hek), getA_put, has_less h.ok f i (by omega), h.node hs]
    by_cases e : j = i
    · simp [e, hn]
    · simp [e]
  · rw [has_less h.ok f i (by omega), if_neg (fun e => hg e.1)]
theorem trimmed {tb : Nat} {t2 : HT} {L : Asks} (h : Tells t2 L) (hd : t2.dep ≤ 8) {t' : HT} (hw : t'.wf) (hb : t'.b = t2.b) (hc : ∀ p i, t'.cnt p i = t2.cnt p i) (hdd : t'.dep ≤ t2.dep) : IsTr tb L ((tb, cel [t2.ptr] 81) :: t'.blks 101) :=
  ⟨t', h.same hw hc, by omega, by unfold HT.ptr; rw [hb]⟩
theorem drop_spec {tb : Nat} {L : Asks} {c : List Blk} {m : Nat} (h : IsTr tb L c) (hb : AskB L m) (hm : m ≤ 1000000) {f : Str} (hf : f.length ≤ 1000) (i : Int) :
    FN Tryz.prog 69 [.pointer (some ⟨tb, 0, none⟩), sv f, .int .i64 i] [c] (fun v h => ∃ c', v = .tuple ⟨[.int .i64 (dropV L f i), .int .i64 (dropE L f i)]⟩ ∧ IsTr tb (dropR L f i) c' ∧ h = [c']) := by
  have hh := h
  obtain ⟨t, ht, hd, rfl⟩ := hh
  have bad : ∀ e, ¬ (okA f i = true ∧ hasK L f i ≠ 0) → dropE L f i = e → ∃ c', Value.tuple ⟨[.int .i64 0, .int .i64 e]⟩ = .tuple ⟨[.int .i64 (dropV L f i), .int .i64 (dropE L f i)]⟩ ∧ IsTr tb (dropR L f i) c' ∧ [(tb, cel [t.ptr] 81) :: t.blks 101] = [c'] := fun e h1 h2 => ⟨_, by rw [dropV, if_neg h1, h2], by rw [dropR, if_neg h1]; exact h, rfl⟩
  refine FN.intro 57 [(0, .pointer (some ⟨tb, 0, none⟩)), (1, sv f), (2, .int .i64 i)] Tryz.func69 rfl (enters Tryz.func69 (by kernel_rfl) rfl) Tryz.ntmps69 rfl rfl ?_
  refine WP.seq <| WP.region <| v0 (S0.assign rfl) rfl <| v0 (S0.assign rfl) rfl <| vE <| WP.seq <| WP.seq <| WP.region <| v0 (S0.move rfl) rfl <| ?_  -- op t11 := call F75{rivulet/topic.Filter}(t10)
  refine vcd (S1.callF rfl (filter_spec (show f.length ≤ 1000000 by omega)) take0) rfl ?_
  refine v0 (S0.not rfl) rfl <| v0 (S0.move rfl) rfl <| ?_  -- guard t13 (wants False) at t14 := move t2 [if #3=False]
  skip
  by_cases hF : filtS f = true
  · skip
    refine csFh (t := 13) rfl ((by simp [hF])) ?_
    refine gT rfl <| v0 (S0.move rfl) rfl <| gT rfl <| v0 (S0.cmp rfl rfl rfl) rfl <| v0 (S0.pickF rfl rfl) rfl <| vE <| ?_  -- cond
    first | refine WP.condP rfl (fun hi => ?_) (fun hi => ?_) | refine WP.condN rfl (fun hi => ?_) (fun hi => ?_) | refine WP.cond rfl (fun hi => ?_) (fun hi => ?_)
    · skip
      have hok : okA f i = false := by simp [okA]; omega
      refine WP.seq <| WP.region <| v0 (S0.assign rfl) rfl <| v0 (S0.assign rfl) rfl <| vE <| WP.ret <| ?_  -- ret
      refine r2 rfl rfl rfl ?_
      exact bad 1 (by simp [hok]) (by simp [dropE, hok])
    · skip
      have hok : okA f i = true := by simp [okA, hF]; omega
      have hhas := hb.has f i
      have hnn := has_nonneg ht.ok f i
      refine WP.skip <| WP.seq <| WP.region <| v0 (S0.move rfl) rfl <| v0 (S0.move rfl) rfl <| ?_  -- op t19 := call F71{(*rivulet/trie.Trie).find}(t17, t18, false)
      refine vcd (S1.callF rfl (find0_spec ht.wf hf) (take1 at0 take0)) rfl ?_
      skip
      cases hs : HT.sub (levels f) t with
      | none =>
        dsimp only
        have h0 := ht.none hs i
        skip
        refine v0 (S0.assign rfl) rfl <| vE <| WP.seq <| WP.seq <| WP.region <| v0 (S0.move rfl) rfl <| v0 (S0.nilP rfl rfl rfl rfl) rfl <| v0 (S0.move rfl) rfl <| ?_  -- guard t22 (wants False) at t23 := move t8 [if #2=False]
        refine csTh (t := 22) rfl (rfl) ?_
        refine gF rfl rfl <| gF rfl rfl <| gF rfl rfl <| gF rfl rfl <| gF rfl rfl <| gF rfl rfl <| gF rfl rfl <| v0 (S0.pickT rfl rfl) rfl <| vE <| WP.condT rfl <| WP.seq <| WP.region <| v0 (S0.assign rfl) rfl <| v0 (S0.assign rfl) rfl <| vE <| WP.ret <| ?_  -- ret
        refine r2 rfl rfl rfl ?_
        exact bad 8 (by simp [h0]) (by simp [dropE, hok, h0])
      | some s =>
        skip
        cases s with
        | nd b mk ma ck ca E K =>
          obtain ⟨i1, i2, i3, -⟩ := HT.node_mem (ct := (tb, cel [t.ptr] 81) :: t.blks 101) (fun z hz => List.mem_cons_of_mem _ (HT.sub_mem _ hs z hz))
          simp only [ptr_nd]
          have hE := ht.node hs
          obtain ⟨C, hC1, hC2⟩ := HT.split 101 hs
          refine v0 (S0.assign rfl) rfl <| vE <| WP.seq <| WP.seq <| WP.region <| v0 (S0.move rfl) rfl <| v0 (S0.nilP rfl rfl rfl rfl) rfl <| v0 (S0.move rfl) rfl <| ?_  -- guard t22 (wants False) at t23 := move t8 [if #2=False]
          refine csFh (t := 22) rfl (rfl) ?_
          refine gT rfl <| v0 (S0.move rfl) rfl <| gT rfl <| v0 (S0.nilCheck rfl) rfl <| gT rfl <| v0 (S0.fieldAddr rfl) rfl <| gT rfl <| v0 (S0.load rfl rfl) rfl <| gT rfl <| v0 (S0.move rfl) rfl <| ?_  -- op t28 := lookup 87 t26 t27 false [if #2=False]
          refine gT rfl <| v0 (S0.lookupV (ek := Value.int .i64) (k := i) rfl rfl (aml_read E i)) rfl <| ?_
          rw [hE i]
          refine gT rfl <| v0 (S0.cmp rfl rfl rfl) rfl <| v0 (S0.pickF rfl rfl) rfl <| vE <| ?_  -- cond
          first | refine WP.condP rfl (fun h0 => ?_) (fun h0 => ?_) | refine WP.condN rfl (fun h0 => ?_) (fun h0 => ?_) | refine WP.cond rfl (fun h0 => ?_) (fun h0 => ?_)
          · skip
            refine WP.seq <| WP.region <| v0 (S0.assign rfl) rfl <| v0 (S0.assign rfl) rfl <| vE <| WP.ret <| ?_  -- ret
            refine r2 rfl rfl rfl ?_
            exact bad 8 (by simp [h0]) (by simp [dropE, hok, h0])
          · skip
            refine WP.skip <| WP.seq <| WP.region <| v0 (S0.move rfl) rfl <| v0 (S0.nilCheck rfl) rfl <| v0 (S0.fieldAddr rfl) rfl <| v0 (S0.load rfl rfl) rfl <| v0 (S0.move rfl) rfl <| ?_  -- op t36 := lookup 87 t34 t35 false
            refine v0 (S0.lookupV (ek := Value.int .i64) (k := i) rfl rfl (aml_read E i)) rfl <| ?_
            rw [hE i]
            refine v0 (S0.ari rfl rfl rfl (wrap_i64 (by omega))) rfl <| ?_  -- op mapUpdate 87 t34 t35 t37
            refine WO.perm (h' := [[(ma, mapO (Value.int .i64) (aml E) ca)], restC tb t b mk ma ck K C]) (k := []) (pm fun a_ => by have h0_ := pm_of (hC1) a_; (try simp only [List.flatten_append, List.flatten_cons, List.flatten_nil, List.append_nil, List.cons_append, List.nil_append, List.append_assoc, nOf_app, nOf_cons, nOf_nil, Nat.add_zero, Nat.zero_add, List.map_append, List.map_cons, List.map_nil, cel, sv, HT.blks] at h0_); (try simp only [List.flatten_append, List.flatten_cons, List.flatten_nil, List.append_nil, List.cons_append, List.nil_append, List.append_assoc, nOf_app, nOf_cons, nOf_nil, Nat.add_zero, Nat.zero_add, List.map_append, List.map_cons, List.map_nil, cel, sv, HT.blks]); omega) ?_
            refine vs (S1.mapUpdate (ek := Value.int .i64) (k := i) rfl rfl rfl) <| ?_
            rw [← aml_put]
            refine vE <| WP.seq <| WP.region <| v0 (S0.move rfl) rfl <| v0 (S0.nilCheck rfl) rfl <| v0 (S0.fieldAddr rfl) rfl <| v0 (S0.load rfl rfl) rfl <| v0 (S0.move rfl) rfl <| ?_  -- op t43 := lookup 87 t41 t42 false
            refine v0 (S0.lookupV (ek := Value.int .i64) (k := i) rfl rfl (aml_read _ i)) rfl <| ?_
            rw [getA_put, if_pos rfl]
            refine v0 (S0.assign rfl) rfl <| vE <| WP.seq <| WP.seq <| WP.region <| v0 (S0.move rfl) rfl <| v0 (S0.cmp rfl rfl rfl) rfl <| vE <| ?_  -- cond
            have hdr : dropR L f i = lessK L f i := by rw [dropR, if_pos ⟨hok, h0⟩]
            have hdv : Value.tuple ⟨[.int .i64 (hasK L f i - 1), .int .i64 0]⟩ = .tuple ⟨[.int .i64 (dropV L f i), .int .i64 (dropE L f i)]⟩ := by rw [dropV, if_pos ⟨hok, h0⟩, dropE, if_pos hok, if_pos h0]
            rw [hdr, ← hdv]
            first | refine WP.condP rfl (fun h1 => ?_) (fun h1 => ?_) | refine WP.condN rfl (fun h1 => ?_) (fun h1 => ?_) | refine WP.cond rfl (fun h1 => ?_) (fun h1 => ?_)
            · skip
              have hone : hasK L f i = 1 := by omega
              have ht2 := gone_tells ht hok hone hs (hasK L f i - 1)
              have hd2 := put_dep (ca' := clkM (aml E) ca i) (E' := delA (putA E ca i (hasK L f i - 1)) i) hs hd
              have hpb := put_back (tb := tb) (E' := delA (putA E ca i (hasK L f i - 1)) i) hs (hC2 (.nd b mk ma ck (clkM (aml E) ca i) (delA (putA E ca i (hasK L f i - 1)) i) K) rfl)
              have hpt : t.ptr = (HT.put (levels f) t (.nd b mk ma ck (clkM (aml E) ca i) (delA (putA E ca i (hasK L f i - 1)) i) K)).ptr := by unfold HT.ptr; rw [HT.put_b (u := .nd b mk ma ck (clkM (aml E) ca i) (delA (putA E ca i (hasK L f i - 1)) i) K) hs rfl]
              generalize HT.put (levels f) t (.nd b mk ma ck (clkM (aml E) ca i) (delA (putA E ca i (hasK L f i - 1)) i) K) = t2 at ht2 hd2 hpb hpt
              refine WP.seq <| WP.region <| v0 (S0.move rfl) rfl <| v0 (S0.nilCheck rfl) rfl <| v0 (S0.fieldAddr rfl) rfl <| v0 (S0.load rfl rfl) rfl <| v0 (S0.move rfl) rfl <| ?_  -- op delete(t49, t50) :[87, 3]
              refine vs (S1.delete (ek := Value.int .i64) (k := i) rfl rfl) <| ?_
              rw [← aml_del]
              refine vE <| WP.region <| v0 (S0.move rfl) rfl <| v0 (S0.nilCheck rfl) rfl <| v0 (S0.fieldAddr rfl) rfl <| v0 (S0.load rfl rfl) rfl <| ?_  -- op t55 := call F72{rivulet/trie.trim}(t54)
              refine WO.perm hpb ?_
              rw [hpt]
              refine WO.perm (h' := [t2.blks 101, [(tb, cel [t2.ptr] 81)]]) (k := []) (pm fun a_ => by (try simp only [List.flatten_append, List.flatten_cons, List.flatten_nil, List.append_nil, List.cons_append, List.nil_append, List.append_assoc, nOf_app, nOf_cons, nOf_nil, Nat.add_zero, Nat.zero_add, List.map_append, List.map_cons, List.map_nil, cel, sv]); omega) ?_
              refine vc (S1.callF rfl (trim_spec t2 ht2.wf) (take1 at0 take0)) rfl ?_
              rintro _ _ ⟨t3, h31, h32, h33, h34, rfl, rfl⟩
              refine app ?_
              refine vE <| WP.seq <| WP.region <| v0 (S0.move rfl) rfl <| v0 (S0.assign rfl) rfl <| v0 (S0.assign rfl) rfl <| vE <| WP.ret <| ?_  -- ret
              refine Leaves.drop (h' := [(tb, cel [t2.ptr] 81) :: t3.blks 101]) (k := []) (pm fun a_ => by (try simp only [List.flatten_append, List.flatten_cons, List.flatten_nil, List.append_nil, List.cons_append, List.nil_append, List.append_assoc, nOf_app, nOf_cons, nOf_nil, Nat.add_zero, Nat.zero_add, List.map_append, List.map_cons, List.map_nil, cel, sv]); omega) ?_
              refine r2 rfl rfl rfl ?_
              exact ⟨_, rfl, trimmed ht2 hd2 h31 h32 h33 h34, rfl⟩
            · skip
              refine WP.skip <| WP.seq <| WP.region <| v0 (S0.move rfl) rfl <| v0 (S0.assign rfl) rfl <| v0 (S0.assign rfl) rfl <| vE <| WP.ret <| ?_  -- ret
              refine Leaves.drop (put_back hs (hC2 (.nd b mk ma ck (clkM (aml E) ca i) (putA E ca i (hasK L f i - 1)) K) rfl)) ?_
              refine r2 rfl rfl rfl ?_
              exact ⟨_, rfl, ⟨_, less_tells ht hok (by omega) hs, put_dep hs hd, rfl⟩, rfl⟩
  · skip
    have hok : okA f i = false := by simp [okA, hF]
    refine csTh (t := 13) rfl ((by simp [hF])) ?_
    refine gF rfl rfl <| gF rfl rfl <| v0 (S0.pickT rfl rfl) rfl <| vE <| WP.condT rfl <| WP.seq <| WP.region <| v0 (S0.assign rfl) rfl <| v0 (S0.assign rfl) rfl <| vE <| WP.ret <| ?_  -- ret
    refine r2 rfl rfl rfl ?_
    exact bad 1 (by simp [hok]) (by simp [dropE, hok])
end Go.Proofs.YtipljeomgdomnaaGreatDoor
/- W10 -/
namespace Go.Proofs.YtipljeomgdomnaaGreatDoor
open Go

theorem del_put {t : HT} (hw : t.wf) {p : List Str} {b mk ma ck ca : Nat} {E : AL} {K : HF} (hs : HT.sub p t = some (.nd b mk ma ck ca E K)) (id : Int) :
    (HT.put p t (.nd b mk ma ck ca (delA E id) K)).wf ∧ (∀ q i, (HT.put p t (.nd b mk ma ck ca (delA E id) K)).cnt q i = if q = p ∧ i = id then 0 else t.cnt q i) := by
  have hsw := HT.sub_wf hs hw
  simp only [HT.wf] at hsw
  have hek : (E.map (·.1)).Nodup := by have := hsw.2.1.keys; rwa [aml_keys] at this
  refine ⟨HT.put_wf hs rfl hw ⟨hsw.1, by rw [aml_del]; exact hsw.2.1.del _, fun x hx => hsw.2.2.1 x ((delA_sub E id).subset hx), hsw.2.2.2⟩, fun q i => ?_⟩
  have h1 := HT.put_same (u := .nd b mk ma ck ca (delA E id) K) hs q i (fun r i hr => by
    cases r with
    | nil => exact absurd rfl hr
    | cons x r => rfl)
  rw [h1]
  by_cases e : q = p
  · rw [if_pos e]
    have h2 : (HT.nd b mk ma ck ca (delA E id) K).cnt [] i = getA (delA E id) i := rfl
    rw [h2, getA_del hek]
    by_cases e2 : i = id
    · simp [e, e2]
    · rw [if_neg e2, if_neg (fun h => e2 h.2), e]
      have := HT.cnt_sub p [] t i
      rw [List.append_nil, hs] at this
      exact this.symm
  · rw [if_neg e, if_neg (fun h => e h.1)]
structure LvI (L : Asks) (id : Int) (t : HT) (j : Nat) (t1 : HT) : Prop where
  wf : t1.wf
  b : t1.b = t.b
  dep : t1.dep ≤ 8
  cnt : ∀ p q, t1.cnt p q = if q = id ∧ (∃ f ∈ (ofK L id).take j, p = levels f) then 0 else t.cnt p q
theorem LvI.done {L : Asks} {id : Int} {t t1 : HT} (h : Tells t L) (hv : LvI L id t (ofK L id).length t1) : Tells t1 (leaveK L id) := by
  refine ⟨hv.wf, h.ok.leave id, fun f q => ?_, fun p i hne => ?_⟩
  · rw [hv.cnt, has_leave, List.take_length]
    by_cases e : q = id
    · rw [if_pos e]
      by_cases hm : f ∈ ofK L id
      · rw [if_pos ⟨e, f, hm, rfl⟩]
      · rw [if_neg (fun ⟨_, g, hg, e2⟩ => hm (levels_inj e2 ▸ hg)), h.cnt, e]
        by_cases h0 : hasK L f id = 0
        · exact h0
        · exact absurd (mem_ofK.2 ⟨_, has_ne h0⟩) hm
    · rw [if_neg e, if_neg (fun h => e h.1), h.cnt]
  · rw [hv.cnt] at hne
    split at hne
    · exact absurd rfl hne
    · exact h.path p i hne
theorem leave_spec {tb : Nat} {L : Asks} {c : List Blk} {m : Nat} (h : IsTr tb L c) (hb : AskB L m) (hm : m ≤ 1000000) (id : Int) :
    FN Tryz.prog 42 [.pointer (some ⟨tb, 0, none⟩), .int .i64 id] [c] (fun v h => ∃ c', v = .int .i64 ((ofK L id).length : Int) ∧ IsTr tb (leaveK L id) c' ∧ h = [c']) := by
  have hof := of_spec h hb hm id
  obtain ⟨t, ht, hd, rfl⟩ := h
  have hfl : ∀ f ∈ ofK L id, f.length ≤ 200 ∧ 0 < hasK L f id := fun f hf => by
    obtain ⟨n, hmm⟩ := mem_ofK.1 hf
    have h1 := filt_len (ht.ok.filt _ hmm).1
    have h2 := ht.ok.pos _ hmm
    have h3 := has_mem ht.ok hmm
    simp only at h1 h2
    exact ⟨h1, by omega⟩
  have hnd := (ofK_sorted L id).nodup
  have hMl : (ofK L id).length ≤ 1000000 := by
    have h1 := ofK_len ht.ok id
    have h2 := List.length_filter_le (fun x => decide (x.2.1 = id)) L
    have h3 := hb.len
    omega
  refine FN.intro 32 [(0, .pointer (some ⟨tb, 0, none⟩)), (1, .int .i64 id)] Tryz.func42 rfl (enters Tryz.func42 (by kernel_rfl) rfl) Tryz.ntmps42 rfl rfl ?_
  refine WP.seq <| WP.region <| v0 (S0.assign rfl) rfl <| vE <| WP.seq <| WP.region <| v0 (S0.move rfl) rfl <| v0 (S0.move rfl) rfl <| ?_  -- op t10 := call F70{(*rivulet/trie.Trie).Of}(t8, t9)
  refine vc (S1.callF rfl (hof) (take1 at0 take0)) rfl ?_
  rintro v _ ⟨row, hs, rfl⟩
  refine app ?_
  have hinit : LvI L id t 0 t := ⟨ht.wf, rfl, hd, fun p q => by simp⟩
  have hdone := fun t1 => LvI.done (t1 := t1) ht (id := id)
  generalize hM : ofK L id = M at hfl hs hdone hnd hMl
  obtain ⟨a, cap, rfl, hcap, hrow⟩ := hs.strsE
  refine v0 (S0.assign rfl) rfl <| vE <| WP.seq <| WP.seq <| WP.region <| v0 (S0.move rfl) rfl <| v0 (S0.lenSl rfl) rfl <| v0 (S0.move rfl) rfl <| vE <| WP.block <| ?_  -- Code.loop
  refine WP.loop (fun st : Nat × HT => st.1 ≤ M.length ∧ LvI L id t st.1 st.2) (fun st : Nat × HT => [(0, .pointer (some ⟨tb, 0, none⟩)), (1, .int .i64 id), (5, .slice a M.length cap), (11, .slice a M.length cap), (12, .int .i64 (M.length : Int)), (13, .int .i64 (st.1 : Int))]) (fun st : Nat × HT => [(tb, cel [st.2.ptr] 81) :: st.2.blks 101, row]) (fun st : Nat × HT => M.length - st.1) ((0, t)) (⟨Nat.zero_le _, hinit⟩) ⟨rfl, rfl, rfl, rfl, rfl, rfl, trivial⟩ ⟨_, (take1 (atS at0) (take1 at0 take0))⟩ (fun st hinv => ?_) 
  obtain ⟨j, t1⟩ := st
  obtain ⟨hj, hv⟩ := hinv
  dsimp only at hj hv ⊢
  refine WP.seq <| WP.region <| v0 (S0.cmp rfl rfl rfl) rfl <| vE <| WP.seq <| ?_  -- cond
  first | refine WP.condP rfl (fun h1 => ?_) (fun h1 => ?_) | refine WP.condN rfl (fun h1 => ?_) (fun h1 => ?_) | refine WP.cond rfl (fun h1 => ?_) (fun h1 => ?_)
  · skip
    have hlt : j < M.length := by omega
    rcases hrow with ⟨e, -⟩ | ⟨b1, sp1, rfl, rfl, hsp1⟩
    · rw [e] at hlt; simp at hlt
    have hx : M[j]? = some M[j] := by simp [hlt]
    have hxm := hfl _ (List.getElem_mem hlt)
    have hxn : M[j] ∉ M.take j := fun hmem => by
      obtain ⟨k, hk, e⟩ := List.getElem_of_mem hmem
      rw [List.length_take] at hk
      rw [List.getElem_take] at e
      have := (List.nodup_iff_pairwise_ne.1 hnd)
      exact (List.pairwise_iff_getElem.1 this) k j (by omega) hlt (by omega) e
    generalize M[j] = f at hx hxm hxn
    have hc1 : t1.cnt (levels f) id ≠ 0 := by
      rw [hv.cnt, hM, if_neg (fun ⟨_, g, hg, e⟩ => hxn (levels_inj e ▸ hg)), ht.cnt]; omega
    refine WP.skip <| WP.seq <| WP.block <| WP.seq <| WP.region <| ?_  -- op t15 := indexAddr 23 t11 t13
    refine v0 (S0.index1 rfl rfl hlt) rfl <| ?_
    refine v0 (S0.load rfl (strs_get hx)) rfl <| ?_
    refine v0 (S0.assign rfl) rfl <| vE <| WP.region <| v0 (S0.move rfl) rfl <| v0 (S0.move rfl) rfl <| ?_  -- op t19 := call F71{(*rivulet/trie.Trie).find}(t17, t18, false)
    refine vcd (S1.callF rfl (find0_spec hv.wf (show f.length ≤ 1000 by omega)) (take1 at0 take0)) rfl ?_
    cases hsub : HT.sub (levels f) t1 with
    | none =>
      have := HT.cnt_sub (levels f) [] t1 id
      rw [List.append_nil, hsub] at this
      exact absurd this hc1
    | some s =>
      cases s with
      | nd b mk ma ck ca E K =>
        obtain ⟨i1, i2, i3, -⟩ := HT.node_mem (ct := (tb, cel [t1.ptr] 81) :: t1.blks 101) (fun z hz => List.mem_cons_of_mem _ (HT.sub_mem _ hsub z hz))
        simp only [ptr_nd]
        obtain ⟨C, hC1, hC2⟩ := HT.split 101 hsub
        obtain ⟨hp1, hp2⟩ := del_put hv.wf hsub id
        have hpb := put_back (tb := tb) (E' := delA E id) hsub (hC2 (.nd b mk ma ck ca (delA E id) K) rfl)
        have hvn : LvI L id t (j + 1) (HT.put (levels f) t1 (.nd b mk ma ck ca (delA E id) K)) := ⟨hp1, (HT.put_b (u := .nd b mk ma ck ca (delA E id) K) hsub rfl).trans hv.b, put_dep hsub hv.dep, fun p q => by
          rw [hp2, hv.cnt, hM, take_one hx]
          by_cases e : p = levels f ∧ q = id
          · rw [if_pos e, if_pos ⟨e.2, f, by simp, e.1⟩]
          · rw [if_neg e]
            by_cases e2 : q = id ∧ ∃ g ∈ M.take j, p = levels g
            · obtain ⟨h1, g, hg, h2⟩ := e2
              rw [if_pos ⟨h1, g, hg, h2⟩, if_pos ⟨h1, g, by simp [hg], h2⟩]
            · rw [if_neg e2, if_neg]
              rintro ⟨h1, g, hg, h2⟩
              rcases List.mem_append.1 hg with hg | hg
              · exact e2 ⟨h1, g, hg, h2⟩
              · simp at hg; subst hg; exact e ⟨h2, h1⟩⟩
        refine v0 (S0.nilCheck rfl) rfl <| v0 (S0.fieldAddr rfl) rfl <| v0 (S0.load rfl rfl) rfl <| v0 (S0.move rfl) rfl <| ?_  -- op delete(t22, t23) :[87, 3]
        refine WO.perm (h' := [[(ma, mapO (Value.int .i64) (aml E) ca)], restC tb t1 b mk ma ck K C, [(b1, .cells ⟨strs M ++ sp1⟩ 9 (0, 0))]]) (k := []) (pm fun a_ => by have h0_ := pm_of (hC1) a_; (try simp only [List.flatten_append, List.flatten_cons, List.flatten_nil, List.append_nil, List.cons_append, List.nil_append, List.append_assoc, nOf_app, nOf_cons, nOf_nil, Nat.add_zero, Nat.zero_add, List.map_append, List.map_cons, List.map_nil, cel, sv, HT.blks] at h0_); (try simp only [List.flatten_append, List.flatten_cons, List.flatten_nil, List.append_nil, List.cons_append, List.nil_append, List.append_assoc, nOf_app, nOf_cons, nOf_nil, Nat.add_zero, Nat.zero_add, List.map_append, List.map_cons, List.map_nil, cel, sv, HT.blks]); omega) ?_
        refine vs (S1.delete (ek := Value.int .i64) (k := id) rfl rfl) <| ?_
        rw [← aml_del]
        refine vE <| WP.region <| v0 (S0.ari rfl rfl rfl (wrap_i64 (by omega))) rfl <| v0 (S0.move rfl) rfl <| vE <| ?_  -- roundend
        exact ⟨(j + 1, HT.put (levels f) t1 (.nd b mk ma ck ca (delA E id) K)), (by first | exact ⟨hlt, hvn⟩ | (dsimp only; exact ⟨hlt, hvn⟩)), (show M.length - (j + 1) < M.length - j by omega), ⟨⟨rfl, rfl, rfl, rfl, rfl, rfl, trivial⟩, rfl, rfl⟩, ⟨[], (pm fun a_ => by have h0_ := pm_of (hpb) a_; (try simp only [List.flatten_append, List.flatten_cons, List.flatten_nil, List.append_nil, List.cons_append, List.nil_append, List.append_assoc, nOf_app, nOf_cons, nOf_nil, Nat.add_zero, Nat.zero_add, List.map_append, List.map_cons, List.map_nil, cel, sv] at h0_); (try simp only [List.flatten_append, List.flatten_cons, List.flatten_nil, List.append_nil, List.cons_append, List.nil_append, List.append_assoc, nOf_app, nOf_cons, nOf_nil, Nat.add_zero, Nat.zero_add, List.map_append, List.map_cons, List.map_nil, cel, sv]); omega)⟩⟩
  · skip
    have e : j = M.length := by omega
    subst e
    have ht1 := hdone t1 hv
    refine WP.exit <| WP.seq <| WP.region <| v0 (S0.move rfl) rfl <| v0 (S0.nilCheck rfl) rfl <| v0 (S0.fieldAddr rfl) rfl <| v0 (S0.load rfl rfl) rfl <| ?_  -- op t29 := call F72{rivulet/trie.trim}(t28)
    refine WO.perm (h' := [t1.blks 101, [(tb, cel [t1.ptr] 81)]]) (k := [row]) (pm fun a_ => by (try simp only [List.flatten_append, List.flatten_cons, List.flatten_nil, List.append_nil, List.cons_append, List.nil_append, List.append_assoc, nOf_app, nOf_cons, nOf_nil, Nat.add_zero, Nat.zero_add, List.map_append, List.map_cons, List.map_nil, cel, sv]); omega) ?_
    refine vc (S1.callF rfl (trim_spec t1 ht1.wf) (take1 at0 take0)) rfl ?_
    rintro _ _ ⟨t3, h31, h32, h33, h34, rfl, rfl⟩
    refine app ?_
    refine vE <| WP.seq <| WP.region <| v0 (S0.move rfl) rfl <| v0 (S0.lenSl rfl) rfl <| v0 (S0.assign rfl) rfl <| vE <| WP.ret <| ?_  -- ret
    refine Leaves.drop (h' := [(tb, cel [t1.ptr] 81) :: t3.blks 101]) (k := []) (pm fun a_ => by (try simp only [List.flatten_append, List.flatten_cons, List.flatten_nil, List.append_nil, List.cons_append, List.nil_append, List.append_assoc, nOf_app, nOf_cons, nOf_nil, Nat.add_zero, Nat.zero_add, List.map_append, List.map_cons, List.map_nil, cel, sv]); omega) ?_
    refine r1 rfl rfl ?_
    exact ⟨_, rfl, trimmed ht1 hv.dep h31 h32 h33 h34, rfl⟩
theorem match_spec0 {tb : Nat} {L : Asks} {c : List Blk} {m : Nat} (h : IsTr tb L c) (hb : AskB L m) (hm : m ≤ 1000000) {s : Str} (hs : s.length ≤ 1000) :
    FN Tryz.prog 37 [.pointer (some ⟨tb, 0, none⟩), sv s] [c] (fun v h => ∃ row, IsSl 3 1 v (ints (idsK L s)) row ∧ h = [row, c]) := by
  obtain ⟨t, ht, hd, rfl⟩ := h
  have hll := levels_len s
  refine FN.intro 21 [(0, .pointer (some ⟨tb, 0, none⟩)), (1, sv s)] Tryz.func37 rfl (enters Tryz.func37 (by kernel_rfl) rfl) Tryz.ntmps37 rfl rfl ?_
  refine WP.seq <| WP.region <| v0 (S0.assign rfl) rfl <| vE <| WP.seq <| WP.seq <| WP.region <| v0 (S0.move rfl) rfl <| ?_  -- op t7 := call F60{rivulet/topic.Right}(t6)
  refine vcd (S1.callF rfl (right_spec (show s.length ≤ 1000000 by omega)) take0) rfl ?_
  refine v0 (S0.not rfl) rfl <| vE <| ?_  -- cond
  skip
  cases hr : rightS s with
  | false =>
    skip
    refine WP.condTh rfl (rfl) ?_
    refine WP.perm (h' := [[], (tb, cel [t.ptr] 81) :: t.blks 101]) (k := []) (by simp) ?_
    refine WP.seq <| WP.region <| v0 (S0.assign rfl) rfl <| vE <| WP.ret <| ?_  -- ret
    refine r1 rfl rfl ?_
    exact ⟨[], by rw [idsK_none hr]; exact IsSl.nil, rfl⟩
  | true =>
    skip
    refine WP.condFh rfl (rfl) ?_
    skip
    refine WP.skip <| WP.seq <| WP.region <| vnv (S1.makeMap) rfl fun b9 => v0 (S0.assign rfl) rfl <| vE <| WP.seq <| WP.drawP [(0, none), (1, none), (2, none), (3, none), (4, none), (6, none), (5, none), (7, none)] mixed (by kernel_rfl) (by kernel_rfl) (by kernel_rfl) (take1 (atS at0) take0) <| w0 rfl rfl rfl (S0.move rfl) rfl <| w0 rfl rfl rfl (S0.nilCheck rfl) rfl <| w0 rfl rfl rfl (S0.fieldAddr rfl) rfl <| w0 rfl rfl rfl (S0.load rfl rfl) rfl <| w0 rfl rfl rfl (S0.move rfl) rfl <| w0 rfl rfl rfl (S0.move rfl) rfl <| ?_  -- op t15 := call F62{rivulet/topic.Levels}(t14)
    refine wc rfl rfl rfl rfl (S1.callF rfl (levels_spec (show s.length ≤ 1000000 by omega)) take0) rfl ?_
    rintro _ _ ⟨row, hsl, rfl⟩
    refine wapp ?_
    -- (nothing to walk: op t17 := call F61{rivulet/trie.gather}(t13, t15, t16))
    refine weS rfl rfl rfl rfl (S1.callF rfl (gather_spec (levels s) t ht.wf (d := b9) (G := []) (cg := 0) (ct := (tb, cel [t.ptr] 81) :: t.blks 101) (fun z hz => List.mem_cons_of_mem _ hz) WfM.nil hsl.rdS (by omega)) (take1 (atS (atS at0)) (take1 at0 (take1 at0 take0)))) rfl ?_
    rintro _ _ ⟨_, ⟨G', cg', hG', hk', rfl, rfl⟩, rfl⟩
    refine ⟨_, (take1 (atS at0) take0), ?_⟩
    refine wE <| WP.seq <| WP.region <| v0 (S0.move rfl) rfl <| ?_  -- op t19 := call F64{maps.Keys[rivulet/trie.asks,int,int]}(t18)
    have hk2 : ∀ i, i ∈ G'.map (·.1) ↔ HT.gath (levels s) t i := fun i => by rw [hk' i]; simp
    have hGl : G'.length ≤ L.length := by
      have h1 : (G'.map (·.1)).length ≤ (L.map (·.2.1)).length := hG'.keys.length_le_of_subset fun i hi => by
        obtain ⟨x, hx, e, -⟩ := (ht.gath hr i).1 ((hk2 i).1 hi)
        exact List.mem_map.2 ⟨x, hx, e⟩
      simpa using h1
    have hbl := hb.len
    refine vc (S1.callF rfl (keys_spec b9) take0) rfl ?_
    rintro _ _ ⟨bx, rfl, rfl⟩
    refine app ?_
    -- (nothing to walk: op t20 := call F63{slices.Sorted[int]}(t19))
    refine vc (S1.callF rfl (sorted_keys (L := G') (ck := cg') (m := b9) (cm := [(b9, mapO (Value.int .i64) G' cg')]) hG' (by omega)) (take1 at0 (take1 (atS at0) take0))) rfl ?_
    rintro v _ ⟨xs, row2, hp, hs2, rfl⟩
    refine app ?_
    refine v0 (S0.assign rfl) rfl <| vE <| WP.ret <| ?_  -- ret
    have hx2 : sortI (xs.map (·.1)) = idsK L s := ht.ids hr (((hp.map (·.1)).nodup_iff).2 hG'.keys) fun i => by rw [(hp.map (·.1)).mem_iff]; exact hk2 i
    rw [hx2] at hs2
    refine Leaves.drop (take1 at0 (take1 (atS at0) take0)) ?_
    refine r1 rfl rfl ?_
    exact ⟨row2, hs2, rfl⟩
end Go.Proofs.YtipljeomgdomnaaGreatDoor
/- Order -/
namespace Go.Proofs.YtipljeomgdomnaaGreatDoor
open Go

theorem covL_nil (z : Bool) (b : List Str) : covL z [] b = decide (b = []) := by cases b <;> simp [covL]
theorem covers_spec : ∀ (A : List Str) {va vb : Value} {B : List Str} {ca cb : List Blk} {deep : Nat}, RdS va A ca → RdS vb B cb → A.length ≤ 1000000 → deep ≤ 1000000 → A.length + deep ≤ 1000000 →
    FN Tryz.prog 98 [va, vb, .int .i64 (deep : Int)] [ca, cb] (is (.bool (covL (decide (deep = 0)) A B)) [ca, cb]) := by
  intro A
  induction A with
  | nil =>
    intro va vb B ca cb deep ha hb hl hd hld
    obtain ⟨a, cap, rfl, hcap, ha⟩ := ha
    obtain ⟨b, cap2, rfl, hcap2, hb⟩ := hb
    rw [covL_nil]
    refine FN.intro 74 [(0, .slice a ([] : List Str).length cap), (1, .slice b B.length cap2), (2, .int .i64 (deep : Int))] Tryz.func98 rfl (enters Tryz.func98 (by kernel_rfl) rfl) Tryz.ntmps98 rfl rfl ?_
    refine WP.seq <| WP.region <| v0 (S0.assign rfl) rfl <| vE <| WP.seq <| WP.block <| WP.seq <| WP.region <| v0 (S0.move rfl) rfl <| v0 (S0.lenSl rfl) rfl <| v0 (S0.cmp rfl rfl rfl) rfl <| v0 (S0.move rfl) rfl <| ?_  -- guard t11 (wants True) at t12 := move t0 [if #3=True]
    refine csFh (t := 11) rfl (rfl) ?_
    refine gF rfl rfl <| gF rfl rfl <| gF rfl rfl <| gF rfl rfl <| v0 (S0.pickF rfl rfl) rfl <| v0 (S0.assign rfl) rfl <| vE <| WP.condF rfl <| WP.seq <| WP.region <| v0 (S0.move rfl) rfl <| v0 (S0.lenSl rfl) rfl <| v0 (S0.cmp rfl rfl rfl) rfl <| v0 (S0.assign rfl) rfl <| vE <| ?_  -- cond
    first | refine WP.condP rfl (fun h1 => ?_) (fun h1 => ?_) | refine WP.condN rfl (fun h1 => ?_) (fun h1 => ?_) | refine WP.cond rfl (fun h1 => ?_) (fun h1 => ?_)
    · skip
      refine WP.seq <| WP.region <| v0 (S0.move rfl) rfl <| v0 (S0.lenSl rfl) rfl <| v0 (S0.cmp rfl rfl rfl) rfl <| v0 (S0.assign rfl) rfl <| vE <| WP.ret <| ?_  -- ret
      refine r1 rfl rfl ⟨?_, rfl⟩
      have : B = [] := List.length_eq_zero_iff.1 (by omega)
      subst this; rfl
    · skip
      have hne : B ≠ [] := fun e => h1 (by rw [e]; rfl)
      obtain ⟨y, B', rfl⟩ := List.exists_cons_of_ne_nil hne
      rcases hb with e | ⟨b2, o2, L2, U2, fz2, rfl, hm2, he2⟩
      · cases e
      have : HasC cb b2 (.cells ⟨L2⟩ U2 fz2) := ⟨hm2⟩
      skip
      refine WP.seq <| WP.region <| v0 (S0.move rfl) rfl <| ?_  -- op t26 := indexAddr 23 t25 0:i64
      refine v0 (S0.indexO1 (i := 0) rfl rfl (by simp)) rfl <| ?_
      refine v0 (S0.load rfl (rdS_get (he2 0 y rfl))) rfl <| ?_
      refine v0 (S0.cmpS rfl rfl rfl) rfl <| v0 (S0.assign rfl) rfl <| vE <| ?_  -- cond
      first | refine WP.condP rfl (fun h3 => ?_) (fun h3 => ?_) | refine WP.condN rfl (fun h3 => ?_) (fun h3 => ?_) | refine WP.cond rfl (fun h3 => ?_) (fun h3 => ?_)
      · skip
        refine WP.seq <| WP.region <| v0 (S0.move rfl) rfl <| v0 (S0.cmp rfl rfl rfl) rfl <| v0 (S0.move rfl) rfl <| ?_  -- guard t31 (wants True) at t32 := move t0 [if #2=True]
        first | refine csP (t := 31) rfl (fun h4 => ?_) (fun h4 => ?_) | refine csN (t := 31) rfl (fun h4 => ?_) (fun h4 => ?_) | refine cs (t := 31) rfl (fun h4 => ?_) (fun h4 => ?_)
        · skip
          refine gT rfl <| v0 (S0.move rfl) rfl <| gT rfl <| v0 (S0.lenSl rfl) rfl <| gT rfl <| v0 (S0.cmp rfl rfl rfl) rfl <| v0 (S0.pickT rfl rfl) rfl <| v0 (S0.move rfl) rfl <| ?_  -- guard t36 (wants True) at t37 := move t0 [if #7=True]
          refine csFh (t := 36) rfl (rfl) ?_
          refine gF rfl rfl <| gF rfl rfl <| gF rfl rfl <| gF rfl rfl <| v0 (S0.pickF rfl rfl) rfl <| v0 (S0.move rfl) rfl <| gF rfl rfl <| gF rfl rfl <| gF rfl rfl <| gF rfl rfl <| v0 (S0.pickF rfl rfl) rfl <| v0 (S0.assign rfl) rfl <| vE <| WP.ret <| ?_  -- ret
          refine r1 rfl rfl ⟨?_, rfl⟩
          simp
        · skip
          refine gF rfl rfl <| gF rfl rfl <| gF rfl rfl <| v0 (S0.pickF rfl rfl) rfl <| v0 (S0.move rfl) rfl <| gF rfl rfl <| gF rfl rfl <| gF rfl rfl <| gF rfl rfl <| v0 (S0.pickF rfl rfl) rfl <| v0 (S0.move rfl) rfl <| gF rfl rfl <| gF rfl rfl <| gF rfl rfl <| gF rfl rfl <| v0 (S0.pickF rfl rfl) rfl <| v0 (S0.assign rfl) rfl <| vE <| WP.ret <| ?_  -- ret
          refine r1 rfl rfl ⟨?_, rfl⟩
          simp
      · skip
        refine WP.seq <| WP.drawP [(0, none), (1, none), (2, none), (3, none), (4, none), (5, none), (6, none), (7, none), (8, none), (9, none), (10, none), (11, none), (12, none), (13, none), (14, none), (15, none), (16, none), (17, none), (18, none)] mixed (by kernel_rfl) (by kernel_rfl) (by kernel_rfl) (take1 at0 (take1 at0 take0)) <| w0 rfl rfl rfl (S0.move rfl) rfl <| w0 rfl rfl rfl (S0.lenSl rfl) rfl <| w0 rfl rfl rfl (S0.cmp rfl rfl rfl) rfl <| w0 rfl rfl rfl (S0.move rfl) rfl <| ?_  -- guard t52 (wants False) at t53 := move t0 [if #3=False]
        refine wcsTh (t := 52) rfl (rfl) ?_
        refine wF rfl rfl rfl rfl <| wF rfl rfl rfl rfl <| wF rfl rfl rfl rfl <| wF rfl rfl rfl rfl <| wF rfl rfl rfl rfl <| wF rfl rfl rfl rfl <| wF rfl rfl rfl rfl <| wF rfl rfl rfl rfl <| wF rfl rfl rfl rfl <| wF rfl rfl rfl rfl <| wF rfl rfl rfl rfl <| wF rfl rfl rfl rfl <| wF rfl rfl rfl rfl <| w0 rfl rfl rfl (S0.pickT rfl rfl) rfl <| w0 rfl rfl rfl (S0.assign rfl) rfl <| wE <| WP.condT rfl <| WP.seq <| WP.region <| v0 (S0.assign rfl) rfl <| vE <| WP.ret <| ?_  -- ret
        refine r1 rfl rfl ⟨?_, rfl⟩
        simp
  | cons x A ih =>
    intro va vb B ca cb deep ha hb hl hd hld
    have hsa := ha
    have hsb := hb
    obtain ⟨a, cap, rfl, hcap, ha⟩ := ha
    obtain ⟨b, cap2, rfl, hcap2, hb⟩ := hb
    rcases ha with e | ⟨b1, o1, L1, U1, fz1, rfl, hm1, he1⟩
    · cases e
    have : HasC ca b1 (.cells ⟨L1⟩ U1 fz1) := ⟨hm1⟩
    refine FN.intro 74 [(0, .slice (some ⟨b1, o1, none⟩) (x :: A).length cap), (1, .slice b B.length cap2), (2, .int .i64 (deep : Int))] Tryz.func98 rfl (enters Tryz.func98 (by kernel_rfl) rfl) Tryz.ntmps98 rfl rfl ?_
    refine WP.seq <| WP.region <| v0 (S0.assign rfl) rfl <| vE <| WP.seq <| WP.block <| WP.seq <| WP.region <| v0 (S0.move rfl) rfl <| v0 (S0.lenSl rfl) rfl <| v0 (S0.cmp rfl rfl rfl) rfl <| v0 (S0.move rfl) rfl <| ?_  -- guard t11 (wants True) at t12 := move t0 [if #3=True]
    refine csTh (t := 11) rfl ((by simp)) ?_
    skip
    refine gT rfl <| v0 (S0.move rfl) rfl <| ?_  -- op t13 := indexAddr 23 t12 0:i64 [if #3=True]
    refine gT rfl <| v0 (S0.indexO1 (i := 0) rfl rfl (by simp)) rfl <| ?_
    refine gT rfl <| v0 (S0.load rfl (rdS_get (he1 0 x rfl))) rfl <| ?_
    refine gT rfl <| v0 (S0.cmpS rfl rfl rfl) rfl <| v0 (S0.pickT rfl rfl) rfl <| v0 (S0.assign rfl) rfl <| vE <| ?_  -- cond
    first | refine WP.condP rfl (fun h1 => ?_) (fun h1 => ?_) | refine WP.condN rfl (fun h1 => ?_) (fun h1 => ?_) | refine WP.cond rfl (fun h1 => ?_) (fun h1 => ?_)
    · skip
      refine WP.seq <| WP.region <| v0 (S0.assign rfl) rfl <| vE <| WP.ret <| ?_  -- ret
      refine r1 rfl rfl ⟨?_, rfl⟩
      simp [covL, h1]
    · skip
      refine WP.seq <| WP.region <| v0 (S0.move rfl) rfl <| v0 (S0.lenSl rfl) rfl <| v0 (S0.cmp rfl rfl rfl) rfl <| v0 (S0.assign rfl) rfl <| vE <| ?_  -- cond
      first | refine WP.condP rfl (fun h2 => ?_) (fun h2 => ?_) | refine WP.condN rfl (fun h2 => ?_) (fun h2 => ?_) | refine WP.cond rfl (fun h2 => ?_) (fun h2 => ?_)
      · skip
        have hB : B = [] := List.length_eq_zero_iff.1 (by omega)
        subst hB
        refine WP.seq <| WP.region <| v0 (S0.move rfl) rfl <| v0 (S0.lenSl rfl) rfl <| v0 (S0.cmp rfl rfl rfl) rfl <| v0 (S0.assign rfl) rfl <| vE <| WP.ret <| ?_  -- ret
        refine r1 rfl rfl ⟨?_, rfl⟩
        simp [covL, h1]; omega
      · skip
        have hne : B ≠ [] := fun e => h2 (by rw [e]; rfl)
        obtain ⟨y, B, rfl⟩ := List.exists_cons_of_ne_nil hne
        rcases hb with e | ⟨b2, o2, L2, U2, fz2, rfl, hm2, he2⟩
        · cases e
        have : HasC cb b2 (.cells ⟨L2⟩ U2 fz2) := ⟨hm2⟩
        have he : covL (decide (deep = 0)) (x :: A) (y :: B) = if y = [35] then decide (deep = 0) && decide (x :: A = [[43], [35]]) else (decide (x = [43]) || decide (x = y)) && covL false A B := by
          simp only [covL, decide_eq_false h1, Bool.false_or]
        rw [he]
        refine WP.seq <| WP.region <| v0 (S0.move rfl) rfl <| ?_  -- op t26 := indexAddr 23 t25 0:i64
        refine v0 (S0.indexO1 (i := 0) rfl rfl (by simp)) rfl <| ?_
        refine v0 (S0.load rfl (rdS_get (he2 0 y rfl))) rfl <| ?_
        refine v0 (S0.cmpS rfl rfl rfl) rfl <| v0 (S0.assign rfl) rfl <| vE <| ?_  -- cond
        first | refine WP.condP rfl (fun h3 => ?_) (fun h3 => ?_) | refine WP.condN rfl (fun h3 => ?_) (fun h3 => ?_) | refine WP.cond rfl (fun h3 => ?_) (fun h3 => ?_)
        · skip
          rw [if_pos h3]
          refine WP.seq <| WP.region <| v0 (S0.move rfl) rfl <| v0 (S0.cmp rfl rfl rfl) rfl <| v0 (S0.move rfl) rfl <| ?_  -- guard t31 (wants True) at t32 := move t0 [if #2=True]
          first | refine csP (t := 31) rfl (fun h4 => ?_) (fun h4 => ?_) | refine csN (t := 31) rfl (fun h4 => ?_) (fun h4 => ?_) | refine cs (t := 31) rfl (fun h4 => ?_) (fun h4 => ?_)
          · skip
            refine gT rfl <| v0 (S0.move rfl) rfl <| gT rfl <| v0 (S0.lenSl rfl) rfl <| gT rfl <| v0 (S0.cmp rfl rfl rfl) rfl <| v0 (S0.pickT rfl rfl) rfl <| v0 (S0.move rfl) rfl <| ?_  -- guard t36 (wants True) at t37 := move t0 [if #7=True]
            first | refine csP (t := 36) rfl (fun h5 => ?_) (fun h5 => ?_) | refine csN (t := 36) rfl (fun h5 => ?_) (fun h5 => ?_) | refine cs (t := 36) rfl (fun h5 => ?_) (fun h5 => ?_)
            · skip
              have hA : ∃ z, A = [z] := by
                cases A with
                | nil => simp at h5
                | cons z A => exact ⟨z, by have : A = [] := List.length_eq_zero_iff.1 (by simp at h5; omega)
                                           rw [this]⟩
              obtain ⟨z, rfl⟩ := hA
              refine gT rfl <| v0 (S0.move rfl) rfl <| ?_  -- op t38 := indexAddr 23 t37 0:i64 [if #7=True]
              refine gT rfl <| v0 (S0.indexO1 (i := 0) rfl rfl (by simp)) rfl <| ?_
              refine gT rfl <| v0 (S0.load rfl (rdS_get (he1 0 x rfl))) rfl <| ?_
              refine gT rfl <| v0 (S0.cmpS rfl rfl rfl) rfl <| v0 (S0.pickT rfl rfl) rfl <| v0 (S0.move rfl) rfl <| ?_  -- guard t42 (wants True) at t43 := move t0 [if #13=True]
              first | refine csP (t := 42) rfl (fun h6 => ?_) (fun h6 => ?_) | refine csN (t := 42) rfl (fun h6 => ?_) (fun h6 => ?_) | refine cs (t := 42) rfl (fun h6 => ?_) (fun h6 => ?_)
              · skip
                refine gT rfl <| v0 (S0.move rfl) rfl <| ?_  -- op t44 := indexAddr 23 t43 1:i64 [if #13=True]
                refine gT rfl <| v0 (S0.indexO1 (i := 1) rfl rfl (by simp)) rfl <| ?_
                refine gT rfl <| v0 (S0.load rfl (rdS_get (he1 1 z rfl))) rfl <| ?_
                refine gT rfl <| v0 (S0.cmpS rfl rfl rfl) rfl <| v0 (S0.pickT rfl rfl) rfl <| v0 (S0.assign rfl) rfl <| vE <| WP.ret <| ?_  -- ret
                refine r1 rfl rfl ⟨?_, rfl⟩
                have : deep = 0 := by omega
                simp [this, h6]
              · skip
                refine gF rfl rfl <| gF rfl rfl <| gF rfl rfl <| gF rfl rfl <| v0 (S0.pickF rfl rfl) rfl <| v0 (S0.assign rfl) rfl <| vE <| WP.ret <| ?_  -- ret
                refine r1 rfl rfl ⟨?_, rfl⟩
                simp [h6]
            · skip
              refine gF rfl rfl <| gF rfl rfl <| gF rfl rfl <| gF rfl rfl <| v0 (S0.pickF rfl rfl) rfl <| v0 (S0.move rfl) rfl <| gF rfl rfl <| gF rfl rfl <| gF rfl rfl <| gF rfl rfl <| v0 (S0.pickF rfl rfl) rfl <| v0 (S0.assign rfl) rfl <| vE <| WP.ret <| ?_  -- ret
              refine r1 rfl rfl ⟨?_, rfl⟩
              have : x :: A ≠ [[43], [35]] := fun e => h5 (by rw [e]; rfl)
              simp [this]
          · skip
            refine gF rfl rfl <| gF rfl rfl <| gF rfl rfl <| v0 (S0.pickF rfl rfl) rfl <| v0 (S0.move rfl) rfl <| gF rfl rfl <| gF rfl rfl <| gF rfl rfl <| gF rfl rfl <| v0 (S0.pickF rfl rfl) rfl <| v0 (S0.move rfl) rfl <| gF rfl rfl <| gF rfl rfl <| gF rfl rfl <| gF rfl rfl <| v0 (S0.pickF rfl rfl) rfl <| v0 (S0.assign rfl) rfl <| vE <| WP.ret <| ?_  -- ret
            refine r1 rfl rfl ⟨?_, rfl⟩
            have : ¬ deep = 0 := by omega
            simp [this]
        · skip
          rw [if_neg h3]
          have hta := RdS.tail hsa
          have htb := RdS.tail hsb
          have e0 : decide (deep + 1 = 0) = false := decide_eq_false (by omega)
          refine WP.seq <| WP.drawP [(0, none), (1, none), (2, none), (3, none), (4, none), (5, none), (6, none), (7, none), (8, none), (9, none), (10, none), (11, none), (12, none), (13, none), (14, none), (15, none), (16, none), (17, none), (18, none)] mixed (by kernel_rfl) (by kernel_rfl) (by kernel_rfl) (take1 at0 (take1 at0 take0)) <| w0 rfl rfl rfl (S0.move rfl) rfl <| w0 rfl rfl rfl (S0.lenSl rfl) rfl <| w0 rfl rfl rfl (S0.cmp rfl rfl rfl) rfl <| w0 rfl rfl rfl (S0.move rfl) rfl <| ?_  -- guard t52 (wants False) at t53 := move t0 [if #3=False]
          refine wcsFh (t := 52) rfl ((by simp; omega)) ?_
          refine w0 rfl rfl rfl (S0.move rfl) rfl <| ?_  -- op t54 := indexAddr 23 t53 0:i64 [if #3=False]
          refine w0 rfl rfl rfl (S0.indexO1 (i := 0) rfl rfl (by simp)) rfl <| ?_
          refine w0 rfl rfl rfl (S0.load rfl (rdS_get (he1 0 x rfl))) rfl <| ?_
          refine w0 rfl rfl rfl (S0.cmpS rfl rfl rfl) rfl <| w0 rfl rfl rfl (S0.move rfl) rfl <| ?_  -- guard t57 (wants True) at t58 := move t0 [if #8=True]
          first | refine wcsP (t := 57) rfl (fun h4 => ?_) (fun h4 => ?_) | refine wcsN (t := 57) rfl (fun h4 => ?_) (fun h4 => ?_) | refine wcs (t := 57) rfl (fun h4 => ?_) (fun h4 => ?_)
          · skip
            refine w0 rfl rfl rfl (S0.move rfl) rfl <| ?_  -- op t59 := indexAddr 23 t58 0:i64 [if #8=True]
            refine w0 rfl rfl rfl (S0.indexO1 (i := 0) rfl rfl (by simp)) rfl <| ?_
            refine w0 rfl rfl rfl (S0.load rfl (rdS_get (he1 0 x rfl))) rfl <| ?_
            refine w0 rfl rfl rfl (S0.move rfl) rfl <| ?_  -- op t62 := indexAddr 23 t61 0:i64 [if #8=True]
            refine w0 rfl rfl rfl (S0.indexO1 (i := 0) rfl rfl (by simp)) rfl <| ?_
            refine w0 rfl rfl rfl (S0.load rfl (rdS_get (he2 0 y rfl))) rfl <| ?_
            refine w0 rfl rfl rfl (S0.cmpS rfl rfl rfl) rfl <| w0 rfl rfl rfl (S0.pickT rfl rfl) rfl <| w0 rfl rfl rfl (S0.pickF rfl rfl) rfl <| w0 rfl rfl rfl (S0.assign rfl) rfl <| wE <| ?_  -- cond
            first | refine WP.condP rfl (fun h5 => ?_) (fun h5 => ?_) | refine WP.condN rfl (fun h5 => ?_) (fun h5 => ?_) | refine WP.cond rfl (fun h5 => ?_) (fun h5 => ?_)
            · skip
              refine WP.seq <| WP.region <| v0 (S0.assign rfl) rfl <| vE <| WP.ret <| ?_  -- ret
              refine r1 rfl rfl ⟨?_, rfl⟩
              simp [h4, h5]
            · skip
              refine WP.skip <| WP.seq <| WP.drawP [(0, none), (1, none), (2, none), (3, none), (4, none), (5, none), (6, none), (7, none)] mixed (by kernel_rfl) (by kernel_rfl) (by kernel_rfl) take0 <| w0 rfl rfl rfl (S0.move rfl) rfl <| ?_  -- op t68 := slice 23 t67 1:i64 none none
              refine w0 rfl rfl rfl (S0.sliceG (i := 1) rfl rfl rfl ⟨by simp, hcap⟩) rfl <| ?_
              refine w0 rfl rfl rfl (S0.move rfl) rfl <| ?_  -- op t70 := slice 23 t69 1:i64 none none
              refine w0 rfl rfl rfl (S0.sliceG (i := 1) rfl rfl rfl ⟨by simp, hcap2⟩) rfl <| ?_
              refine w0 rfl rfl rfl (S0.move rfl) rfl <| w0 rfl rfl rfl (S0.ari rfl rfl rfl (wrap_i64 (by omega))) rfl <| ?_  -- op t73 := call F98{rivulet/topic.covers}(t68, t70, t72)
              refine wcd rfl rfl rfl rfl (S1.callF rfl (ih (deep := deep + 1) hta htb (by simp at hl; omega) (by simp at hld; omega) (by simp at hld; omega)) (take1 at0 (take1 at0 take0))) rfl ?_
              refine w0 rfl rfl rfl (S0.assign rfl) rfl <| wE <| WP.ret <| ?_  -- ret
              refine r1 rfl rfl ⟨?_, rfl⟩
              rw [e0]
              simp [h5]
          · skip
            refine wF rfl rfl rfl rfl <| wF rfl rfl rfl rfl <| wF rfl rfl rfl rfl <| wF rfl rfl rfl rfl <| wF rfl rfl rfl rfl <| wF rfl rfl rfl rfl <| wF rfl rfl rfl rfl <| w0 rfl rfl rfl (S0.pickF rfl rfl) rfl <| w0 rfl rfl rfl (S0.pickF rfl rfl) rfl <| w0 rfl rfl rfl (S0.assign rfl) rfl <| wE <| WP.condF rfl <| WP.skip <| WP.seq <| WP.drawP [(0, none), (1, none), (2, none), (3, none), (4, none), (5, none), (6, none), (7, none)] mixed (by kernel_rfl) (by kernel_rfl) (by kernel_rfl) take0 <| w0 rfl rfl rfl (S0.move rfl) rfl <| ?_  -- op t68 := slice 23 t67 1:i64 none none
            refine w0 rfl rfl rfl (S0.sliceG (i := 1) rfl rfl rfl ⟨by simp, hcap⟩) rfl <| ?_
            refine w0 rfl rfl rfl (S0.move rfl) rfl <| ?_  -- op t70 := slice 23 t69 1:i64 none none
            refine w0 rfl rfl rfl (S0.sliceG (i := 1) rfl rfl rfl ⟨by simp, hcap2⟩) rfl <| ?_
            refine w0 rfl rfl rfl (S0.move rfl) rfl <| w0 rfl rfl rfl (S0.ari rfl rfl rfl (wrap_i64 (by omega))) rfl <| ?_  -- op t73 := call F98{rivulet/topic.covers}(t68, t70, t72)
            refine wcd rfl rfl rfl rfl (S1.callF rfl (ih (deep := deep + 1) hta htb (by simp at hl; omega) (by simp at hld; omega) (by simp at hld; omega)) (take1 at0 (take1 at0 take0))) rfl ?_
            refine w0 rfl rfl rfl (S0.assign rfl) rfl <| wE <| WP.ret <| ?_  -- ret
            refine r1 rfl rfl ⟨?_, rfl⟩
            rw [e0]
            simp [h4]
theorem tcovers_spec {a b : Str} (ha : a.length ≤ 100000) (hb : b.length ≤ 100000) : FN Tryz.prog 82 [sv a, sv b] [] (is (.bool (coversS a b)) []) := by
  have hal := levels_len a
  refine FN.intro 18 [(0, sv a), (1, sv b)] Tryz.func82 rfl (enters Tryz.func82 (by kernel_rfl) rfl) Tryz.ntmps82 rfl rfl ?_
  refine WP.seq <| WP.region <| v0 (S0.assign rfl) rfl <| vE <| WP.seq <| WP.region <| v0 (S0.move rfl) rfl <| ?_  -- op t6 := call F75{rivulet/topic.Filter}(t5)
  refine vcd (S1.callF rfl (filter_spec (show a.length ≤ 1000000 by omega)) take0) rfl ?_
  refine v0 (S0.move rfl) rfl <| ?_  -- guard t7 (wants True) at t8 := move t1 [if #2=True]
  first | refine csP (t := 7) rfl (fun h1 => ?_) (fun h1 => ?_) | refine csN (t := 7) rfl (fun h1 => ?_) (fun h1 => ?_) | refine cs (t := 7) rfl (fun h1 => ?_) (fun h1 => ?_)
  · skip
    refine gT rfl <| v0 (S0.move rfl) rfl <| ?_  -- op t9 := call F75{rivulet/topic.Filter}(t8) [if #2=True]
    refine gT rfl <| vcd (S1.callF rfl (filter_spec (show b.length ≤ 1000000 by omega)) take0) rfl ?_
    refine v0 (S0.pickT rfl rfl) rfl <| v0 (S0.move rfl) rfl <| ?_  -- guard t11 (wants True) at t12 := move t0 [if #6=True]
    first | refine csP (t := 11) rfl (fun h2 => ?_) (fun h2 => ?_) | refine csN (t := 11) rfl (fun h2 => ?_) (fun h2 => ?_) | refine cs (t := 11) rfl (fun h2 => ?_) (fun h2 => ?_)
    · skip
      refine gT rfl <| v0 (S0.move rfl) rfl <| ?_  -- op t13 := call F62{rivulet/topic.Levels}(t12) [if #6=True]
      refine gT rfl <| vc (S1.callF rfl (levels_spec (show a.length ≤ 1000000 by omega)) take0) rfl ?_
      rintro _ _ ⟨ra, hsa, rfl⟩
      refine app ?_
      refine gT rfl <| v0 (S0.move rfl) rfl <| ?_  -- op t15 := call F62{rivulet/topic.Levels}(t14) [if #6=True]
      refine gT rfl <| vc (S1.callF rfl (levels_spec (show b.length ≤ 1000000 by omega)) take0) rfl ?_
      rintro _ _ ⟨rb, hsb, rfl⟩
      refine app ?_
      -- (nothing to walk: op t16 := call F98{rivulet/topic.covers}(t13, t15, 0:i64) [if #6=True])
      refine gT rfl <| vcd (S1.callF rfl (covers_spec (levels a) (deep := 0) hsa.rdS hsb.rdS (by omega) (by omega) (by omega)) (take1 (atS at0) (take1 at0 take0))) rfl ?_
      refine v0 (S0.pickT rfl rfl) rfl <| v0 (S0.assign rfl) rfl <| vE <| WP.ret <| ?_  -- ret
      refine Leaves.drop take0 ?_
      refine r1 rfl rfl ⟨?_, rfl⟩
      simp [coversS, h1, h2]
    · skip
      refine gF rfl rfl <| gF rfl rfl <| gF rfl rfl <| gF rfl rfl <| gF rfl rfl <| v0 (S0.pickF rfl rfl) rfl <| v0 (S0.assign rfl) rfl <| vE <| WP.ret <| ?_  -- ret
      refine r1 rfl rfl ⟨?_, rfl⟩
      simp [coversS, h2]
  · skip
    refine gF rfl rfl <| gF rfl rfl <| v0 (S0.pickF rfl rfl) rfl <| v0 (S0.move rfl) rfl <| gF rfl rfl <| gF rfl rfl <| gF rfl rfl <| gF rfl rfl <| gF rfl rfl <| v0 (S0.pickF rfl rfl) rfl <| v0 (S0.assign rfl) rfl <| vE <| WP.ret <| ?_  -- ret
    refine r1 rfl rfl ⟨?_, rfl⟩
    simp [coversS, h1]
theorem order_spec {a b : Str} (ha : a.length ≤ 100000) (hb : b.length ≤ 100000) : FN Tryz.prog 77 [sv a, sv b] [] (is (.int .i64 (cmpL (levels a) (levels b))) []) := by
  have hal := levels_len a
  refine FN.intro 10 [(0, sv a), (1, sv b)] Tryz.func77 rfl (enters Tryz.func77 (by kernel_rfl) rfl) Tryz.ntmps77 rfl rfl ?_
  refine WP.seq <| WP.region <| v0 (S0.assign rfl) rfl <| vE <| WP.seq <| WP.region <| v0 (S0.move rfl) rfl <| ?_  -- op t6 := call F62{rivulet/topic.Levels}(t5)
  refine vc (S1.callF rfl (levels_spec (show a.length ≤ 1000000 by omega)) take0) rfl ?_
  rintro _ _ ⟨ra, hsa, rfl⟩
  refine app ?_
  refine v0 (S0.move rfl) rfl <| ?_  -- op t8 := call F62{rivulet/topic.Levels}(t7)
  refine vc (S1.callF rfl (levels_spec (show b.length ≤ 1000000 by omega)) take0) rfl ?_
  rintro _ _ ⟨rb, hsb, rfl⟩
  refine app ?_
  -- (nothing to walk: op t9 := call F86{slices.Compare[[]string,string]}(t6, t8))
  refine vcd (S1.callF rfl (compare_spec hsa.rdS hsb.rdS (by omega)) (take1 (atS at0) (take1 at0 take0))) rfl ?_
  refine v0 (S0.assign rfl) rfl <| vE <| WP.ret <| ?_  -- ret
  refine Leaves.drop take0 ?_
  refine r1 rfl rfl ⟨?_, rfl⟩
  rfl
end Go.Proofs.YtipljeomgdomnaaGreatDoor
/- SortG -/
namespace Go.Proofs.YtipljeomgdomnaaGreatDoor
open Go

/-! slices.Compact -/
theorem mem_compact {zs : List Str} {x : Str} : x ∈ Lib.compact zs ↔ x ∈ zs := by
  unfold Lib.compact Lib.compactUpTo
  simp only [List.mem_map, List.mem_filter, List.mem_range, Lib.keeps, decide_eq_true_eq]
  constructor
  · rintro ⟨j, ⟨hj, -⟩, rfl⟩
    have : zs.toArray[j]! = zs[j] := by simp [hj]
    rw [this]; exact List.getElem_mem hj
  · intro h
    obtain ⟨i, hi, rfl⟩ := List.getElem_of_mem h
    have key : ∀ i (hi : i < zs.length), ∃ j, (j < zs.length ∧ (j = 0 ∨ zs.toArray[j]! ≠ zs.toArray[j - 1]!)) ∧ zs.toArray[j]! = zs[i] := by
      intro i
      induction i with
      | zero => intro hi; exact ⟨0, ⟨hi, .inl rfl⟩, by simp [hi]⟩
      | succ i ih =>
        intro hi
        by_cases h : zs.toArray[i + 1]! = zs.toArray[i]!
        · obtain ⟨j, h1, h2⟩ := ih (by omega)
          refine ⟨j, h1, ?_⟩
          rw [h2]
          simp [hi, show i < zs.length by omega] at h
          exact h.symm
        · exact ⟨i + 1, ⟨hi, .inr (by simpa using h)⟩, by simp [hi]⟩
    exact key i hi
theorem sorted_compact {zs : List Str} (h : zs.Pairwise fun x y => lessS y x = false) : SortedS (Lib.compact zs) := by
  unfold Lib.compact Lib.compactUpTo
  rw [SortedS, List.pairwise_map]
  have hr : ((List.range zs.length).filter (Lib.keeps zs.toArray)).Pairwise (· < ·) := List.Pairwise.sublist List.filter_sublist List.pairwise_lt_range
  refine hr.imp_of_mem fun {j k} hj hk hjk => ?_
  simp only [List.mem_filter, List.mem_range, Lib.keeps, decide_eq_true_eq] at hj hk
  obtain ⟨hk1, hk2⟩ := hk
  have hk3 := hk2.resolve_left (by omega)
  have e1 : zs.toArray[j]! = zs[j] := by simp [hj.1]
  have e2 : zs.toArray[k]! = zs[k] := by simp [hk1]
  have e3 : zs.toArray[k - 1]! = zs[k - 1]'(by omega) := by simp [show k - 1 < zs.length by omega]
  rw [e2, e3] at hk3
  rw [e1, e2]
  have h1 : lessS zs[k] (zs[k - 1]'(by omega)) = false := List.pairwise_iff_getElem.1 h (k - 1) k (by omega) hk1 (by omega)
  have h2 : lessS (zs[k - 1]'(by omega)) zs[k] = true := by
    cases h3 : lessS (zs[k - 1]'(by omega)) zs[k] with
    | true => rfl
    | false => exact absurd (lessS_tri h1 h3) hk3
  by_cases e : j = k - 1
  · subst e; exact h2
  · have h3 : lessS (zs[k - 1]'(by omega)) zs[j] = false := List.pairwise_iff_getElem.1 h j (k - 1) (by omega) (by omega) (by omega)
    cases h4 : lessS zs[j] zs[k] with
    | true => rfl
    | false =>
      cases h5 : lessS zs[j] (zs[k - 1]'(by omega)) with
      | true => rw [lessS_trans h5 h2] at h4; cases h4
      | false => have := lessS_tri h5 h3; rw [this, h2] at h4; cases h4
theorem compact_le (zs : List Str) : (Lib.compact zs).length ≤ zs.length := by
  unfold Lib.compact Lib.compactUpTo
  rw [List.length_map]
  exact Nat.le_trans (List.length_filter_le _ _) (by simp)
theorem compact_spec {v : Value} {zs : List Str} {c : List Blk} (hs : IsSl 9 1 v (strs zs) c) (hl : zs.length ≤ 1000000) :
    FN Tryz.prog 78 [v] [c] (fun u h' => ∃ c', IsSl 9 1 u (strs (Lib.compact zs)) c' ∧ h' = [c']) := by
  have hent := enters Tryz.func78 (by kernel_rfl) rfl
  obtain ⟨a, cap, rfl, hcap, hr⟩ := hs.strsE
  refine ⟨hent, fun E' R w st => ?_⟩
  rcases hr with ⟨rfl, rfl, rfl, rfl⟩ | ⟨b, sp, rfl, rfl, hcp⟩
  · refine (Tryz.slices_Compact_string_empty none 0 w).mono ?_
    rintro e w' ⟨rfl, rfl⟩
    exact ⟨_, _, rfl, ⟨[], IsSl.nil, rfl⟩, st⟩
  · have hb : w.heap[b]? = some (.cells ⟨strs zs ++ sp⟩ 9 (0, 0)) := st.cell (b, _) (by simp)
    have hH : Sort.Holds Go.Proofs.encStr w b 0 zs.toArray := holds_row (enc := Go.Proofs.encStr) (ys := zs) hb
    have hcon := Tryz.slices_Compact_string b 0 cap zs w hH (by omega) hcap
    refine hcon.mono ?_
    rintro e w' ⟨rfl, k, rfl⟩
    have hcl := compact_le zs
    refine ⟨_, [[(b, .cells ⟨(Lib.compact zs ++ List.replicate (zs.length - (Lib.compact zs).length) []).map Go.Proofs.encStr ++ sp⟩ 9 (0, 0))]], rfl, ⟨_, ?_, rfl⟩, ?_⟩
    · rw [List.map_append, List.append_assoc]
      refine IsSl.row (E := 9) (k := 1) (b := b) (c := cap) (l := strs (Lib.compact zs)) (by simp [strs]) ?_ (by omega)
      simp only [strs, List.length_append, List.length_map, List.length_replicate] at hcp ⊢
      omega
    · exact Sat.putRow (enc := Go.Proofs.encStr) (cs := strs zs) st k _ (by simp; omega)
/-- what cover.clean makes of the filters -/
theorem compact_clean (l : List Str) : Lib.compact (sortP (l.filter filtS)) = cleanS l :=
  sortedS_ext (sorted_compact (sortP_le _)) (clean_sorted _) fun y => by
    rw [mem_compact, (sortP_perm _).mem_iff, mem_clean, List.mem_filter]
end Go.Proofs.YtipljeomgdomnaaGreatDoor
/- Cover -/
namespace Go.Proofs.YtipljeomgdomnaaGreatDoor
open Go

theorem strs_snoc (l : List Str) (x : Str) : strs (l ++ [x]) = strs l ++ [sv x] := by simp [strs]
theorem clean_spec {v : Value} {l : List Str} {c : List Blk} (hr : RdS v l c) (hx : ∀ x ∈ l, x.length ≤ 1000) (hl : l.length ≤ 1000) : FN Tryz.prog 47 [v] [c] (fun u h => ∃ row, IsSl 9 1 u (strs (cleanS l)) row ∧ h = [row, c]) := by
  obtain ⟨a, cap, rfl, hcap, hr⟩ := hr
  refine FN.intro 23 [(0, .slice a l.length cap)] Tryz.func47 rfl (enters Tryz.func47 (by kernel_rfl) rfl) Tryz.ntmps47 rfl rfl ?_
  refine WP.seq <| WP.region <| v0 (S0.assign rfl) rfl <| vE <| WP.seq <| WP.region <| v0 (S0.assign rfl) rfl <| vE <| WP.seq <| WP.seq <| WP.region <| v0 (S0.move rfl) rfl <| v0 (S0.lenSl rfl) rfl <| v0 (S0.move rfl) rfl <| vE <| WP.block <| ?_  -- Code.loop
  refine WP.loop (fun st : Nat × Value × List Blk => st.1 ≤ l.length ∧ IsSl 9 1 st.2.1 (strs ((l.take st.1).filter filtS)) st.2.2) (fun st : Nat × Value × List Blk => [(0, .slice a l.length cap), (3, st.2.1), (6, .slice a l.length cap), (7, .int .i64 (l.length : Int)), (8, .int .i64 (st.1 : Int))]) (fun st : Nat × Value × List Blk => [st.2.2, c]) (fun st : Nat × Value × List Blk => l.length - st.1) ((0, .slice none 0 0, [])) (⟨Nat.zero_le _, by simpa using IsSl.nil⟩) ⟨rfl, rfl, rfl, rfl, rfl, trivial⟩ ⟨[], by simp⟩ (fun st hinv => ?_) 
  obtain ⟨i, ov, row⟩ := st
  obtain ⟨hi, hsl⟩ := hinv
  dsimp only at hi hsl ⊢
  refine WP.seq <| WP.region <| v0 (S0.cmp rfl rfl rfl) rfl <| vE <| WP.seq <| ?_  -- cond
  first | refine WP.condP rfl (fun h1 => ?_) (fun h1 => ?_) | refine WP.condN rfl (fun h1 => ?_) (fun h1 => ?_) | refine WP.cond rfl (fun h1 => ?_) (fun h1 => ?_)
  · skip
    have hlt : i < l.length := by omega
    rcases hr with e | ⟨b1, o1, L1, U1, fz1, rfl, hm1, he1⟩
    · rw [e] at hlt; simp at hlt
    have : HasC c b1 (.cells ⟨L1⟩ U1 fz1) := ⟨hm1⟩
    have hg : l[i]? = some l[i] := by simp [hlt]
    have hxl := hx _ (List.getElem_mem hlt)
    generalize l[i] = x at hg hxl
    have hxe := he1 i x hg
    have htk : l.take (i + 1) = l.take i ++ [x] := by rw [List.take_add_one, hg]; rfl
    skip
    refine WP.skip <| WP.seq <| WP.block <| WP.seq <| WP.region <| ?_  -- op t10 := indexAddr 23 t6 t8
    refine v0 (S0.indexO1 rfl rfl hlt) rfl <| ?_
    refine v0 (S0.load rfl (rdS_get hxe)) rfl <| ?_
    refine v0 (S0.assign rfl) rfl <| vE <| WP.seq <| WP.region <| v0 (S0.move rfl) rfl <| ?_  -- op t13 := call F75{rivulet/topic.Filter}(t12)
    refine vcd (S1.callF rfl (filter_spec (show x.length ≤ 1000000 by omega)) take0) rfl ?_
    refine vE <| ?_  -- cond
    first | refine WP.condP rfl (fun h2 => ?_) (fun h2 => ?_) | refine WP.condN rfl (fun h2 => ?_) (fun h2 => ?_) | refine WP.cond rfl (fun h2 => ?_) (fun h2 => ?_)
    · skip
      have hfl := List.length_filter_le filtS (l.take i)
      have htl : (l.take i).length ≤ l.length := by simp; omega
      refine WP.region <| v0 (S0.move rfl) rfl <| v0 (S0.move rfl) rfl <| vnv (S1.buildSlice rfl (qs := [(0, _)]) rfl rfl) rfl fun b16 => ?_  -- op t17 := append(t14, t16) :[23, 23]
      refine ve (S1.appendL rfl hsl rfl rfl (atS at0) rfl rfl (by rw [strs_len]; simp; omega)) rfl ?_
      rintro v2 _ ⟨row2, hsl2, rfl⟩
      refine v0 (S0.assign rfl) rfl <| vE <| WP.region <| v0 (S0.ari rfl rfl rfl (wrap_i64 (by omega))) rfl <| v0 (S0.move rfl) rfl <| vE <| ?_  -- roundend
      exact ⟨(i + 1, v2, row2), (by first | exact ⟨hlt, by rw [htk, List.filter_append]; simpa [h2, strs] using hsl2⟩ | (dsimp only; exact ⟨hlt, by rw [htk, List.filter_append]; simpa [h2, strs] using hsl2⟩)), (show l.length - (i + 1) < l.length - i by omega), ⟨⟨rfl, rfl, rfl, rfl, rfl, trivial⟩, rfl, rfl⟩, ⟨_, (take1 at0 (take1 (atS at0) take0))⟩⟩
    · skip
      refine WP.skip <| WP.region <| v0 (S0.ari rfl rfl rfl (wrap_i64 (by omega))) rfl <| v0 (S0.move rfl) rfl <| vE <| ?_  -- roundend
      exact ⟨(i + 1, ov, row), (by first | exact ⟨hlt, by rw [htk, List.filter_append]; simpa [h2] using hsl⟩ | (dsimp only; exact ⟨hlt, by rw [htk, List.filter_append]; simpa [h2] using hsl⟩)), (show l.length - (i + 1) < l.length - i by omega), ⟨⟨rfl, rfl, rfl, rfl, rfl, trivial⟩, rfl, rfl⟩, ⟨_, (take1 at0 (take1 at0 take0))⟩⟩
  · skip
    have e : i = l.length := by omega
    subst e
    rw [List.take_length] at hsl
    have hfl := List.length_filter_le filtS l
    refine WP.exit <| WP.seq <| WP.region <| v0 (S0.move rfl) rfl <| ?_  -- op t20 := call F76{slices.SortFunc[[]string,string]}(t19, F77)
    refine vc (S1.callF rfl (sortF_spec (fun x y => order_spec (Nat.le_trans x.2 (by omega)) (Nat.le_trans y.2 (by omega))) hsl (fun x hm => by have := hx x (List.mem_filter.1 hm).1; omega) (by omega)) (take1 at0 take0)) rfl ?_
    rintro _ _ ⟨rfl, row2, hsl2, rfl⟩
    refine app ?_
    refine vE <| WP.seq <| WP.region <| v0 (S0.move rfl) rfl <| ?_  -- op t22 := call F78{slices.Compact[[]string,string]}(t21)
    refine vc (S1.callF rfl (compact_spec hsl2 (by have := (sortP_perm (l.filter filtS)).length_eq; omega)) (take1 at0 take0)) rfl ?_
    rintro u _ ⟨row3, hsl3, rfl⟩
    refine app ?_
    refine v0 (S0.assign rfl) rfl <| vE <| WP.ret <| ?_  -- ret
    refine r1 rfl rfl ?_
    exact ⟨row3, by rw [← compact_clean]; exact hsl3, rfl⟩
end Go.Proofs.YtipljeomgdomnaaGreatDoor
/- Cover2 -/
namespace Go.Proofs.YtipljeomgdomnaaGreatDoor
open Go

theorem sorted_at {c : List Str} (hs : SortedS c) {i k : Nat} {x y : Str} (hx : c[i]? = some x) (hy : c[k]? = some y) : (decide (k = i) = decide (y = x)) ∧ (k ≠ i → lessS y x = decide (k < i)) := by
  obtain ⟨hi, ex⟩ := List.getElem?_eq_some_iff.1 hx
  obtain ⟨hk, ey⟩ := List.getElem?_eq_some_iff.1 hy
  have h1 := List.pairwise_iff_getElem.1 hs
  rcases Nat.lt_trichotomy k i with h | h | h
  · have := h1 k i hk hi h
    rw [ex, ey] at this
    have hne : y ≠ x := fun e => by subst e; rw [lessS_irr] at this; cases this
    exact ⟨by simp [hne]; omega, fun _ => by rw [this]; simp [h]⟩
  · subst h
    rw [hx] at hy; cases hy
    exact ⟨by simp, fun h => absurd rfl h⟩
  · have := h1 i k hi hk h
    rw [ex, ey] at this
    have hne : y ≠ x := fun e => by subst e; rw [lessS_irr] at this; cases this
    exact ⟨by simp [hne]; omega, fun _ => by rw [lessS_asym this]; simp; omega⟩
theorem dom_at {c : List Str} (hs : SortedS c) {i k : Nat} {x y : Str} (hx : c[i]? = some x) (hy : c[k]? = some y) : domS y x = (!decide (k = i) && coversS y x && (!coversS x y || decide (k < i))) := by
  obtain ⟨e1, e2⟩ := sorted_at hs hx hy
  by_cases h : k = i
  · subst h
    rw [hx] at hy; cases hy
    simp [dom_irr]
  · have hne : y ≠ x := fun e => by simp [e] at e1; exact h e1
    rw [domS, e2 h]
    simp [h, hne]
theorem any_upto {α : Type} {c : List α} {p : α → Bool} (h : ∀ j y, j < c.length → c[j]? = some y → p y = false) : c.any p = false := by
  rw [List.any_eq_false]
  intro y hy
  obtain ⟨j, hj, rfl⟩ := List.getElem_of_mem hy
  simp [h j _ hj (List.getElem?_eq_getElem hj)]
theorem least_spec {v : Value} {l : List Str} {c : List Blk} (hr : RdS v l c) (hx : ∀ x ∈ l, x.length ≤ 1000) (hl : l.length ≤ 1000) : FN Tryz.prog 56 [v] [c] (fun u h => ∃ row, IsSl 9 1 u (strs (leastS l)) row ∧ h = [row, c]) := by
  have hcs := clean_sorted l
  have hcl := clean_len l
  have hcx : ∀ x ∈ cleanS l, x.length ≤ 1000 := fun x h => hx x (mem_clean.1 h).1
  rw [leastS]
  refine FN.intro 59 [(0, v)] Tryz.func56 rfl (enters Tryz.func56 (by kernel_rfl) rfl) Tryz.ntmps56 rfl rfl ?_
  refine WP.seq <| WP.region <| v0 (S0.assign rfl) rfl <| vE <| WP.scope <| WP.seq <| WP.region <| v0 (S0.move rfl) rfl <| ?_  -- op t10 := call F47{rivulet/cover.clean}(t9)
  refine vc (S1.callF rfl (clean_spec hr hx hl) (take1 at0 take0)) rfl ?_
  rintro u _ ⟨crow, hsc, rfl⟩
  refine app ?_
  generalize cleanS l = C at hcs hcl hcx hsc
  obtain ⟨a, cap, rfl, -, hrow⟩ := hsc.strsE
  refine v0 (S0.assign rfl) rfl <| vE <| WP.seq <| WP.region <| v0 (S0.assign rfl) rfl <| vE <| WP.seq <| WP.label <| WP.seq <| WP.seq <| WP.region <| v0 (S0.move rfl) rfl <| v0 (S0.lenSl rfl) rfl <| v0 (S0.move rfl) rfl <| vE <| WP.block <| ?_  -- Code.loop
  refine WP.loop (fun st : Nat × Value × List Blk => st.1 ≤ C.length ∧ IsSl 9 1 st.2.1 (strs ((C.take st.1).filter fun f => !C.any fun g => domS g f)) st.2.2) (fun st : Nat × Value × List Blk => [(3, .slice a C.length cap), (4, st.2.1), (12, .int .i64 (C.length : Int)), (13, .int .i64 (st.1 : Int))]) (fun st : Nat × Value × List Blk => [st.2.2, crow, c]) (fun st : Nat × Value × List Blk => C.length - st.1) ((0, .slice none 0 0, [])) (⟨Nat.zero_le _, by simpa using IsSl.nil⟩) ⟨rfl, rfl, rfl, rfl, trivial⟩ ⟨[], by simp⟩ (fun st hinv => ?_) 
  obtain ⟨i, ov, row⟩ := st
  obtain ⟨hi, hsl⟩ := hinv
  dsimp only at hi hsl ⊢
  refine WP.seq <| WP.region <| v0 (S0.cmp rfl rfl rfl) rfl <| vE <| WP.seq <| ?_  -- cond
  first | refine WP.condP rfl (fun h1 => ?_) (fun h1 => ?_) | refine WP.condN rfl (fun h1 => ?_) (fun h1 => ?_) | refine WP.cond rfl (fun h1 => ?_) (fun h1 => ?_)
  · skip
    have hlt : i < C.length := by omega
    rcases hrow with ⟨e, -⟩ | ⟨b1, sp1, rfl, rfl, hsp1⟩
    · rw [e] at hlt; simp at hlt
    have hg : C[i]? = some C[i] := by simp [hlt]
    have hxl := hcx _ (List.getElem_mem hlt)
    generalize C[i] = x at hg hxl
    have htk : C.take (i + 1) = C.take i ++ [x] := by rw [List.take_add_one, hg]; rfl
    have hfl := List.length_filter_le (fun f => !C.any fun g => domS g f) (C.take i)
    have htl : (C.take i).length ≤ C.length := by simp; omega
    refine WP.skip <| WP.seq <| WP.block <| WP.seq <| WP.region <| v0 (S0.move rfl) rfl <| v0 (S0.assign rfl) rfl <| vE <| WP.seq <| WP.seq <| WP.region <| v0 (S0.move rfl) rfl <| v0 (S0.lenSl rfl) rfl <| v0 (S0.move rfl) rfl <| vE <| WP.block <| ?_  -- Code.loop
    refine WP.loop (fun k : Nat => k ≤ C.length ∧ ∀ j y, j < k → C[j]? = some y → domS y x = false) (fun k : Nat => [(3, .slice (some ⟨b1, 0, none⟩) C.length cap), (4, ov), (5, .int .i64 (i : Int)), (12, .int .i64 (C.length : Int)), (13, .int .i64 (i : Int)), (16, .slice (some ⟨b1, 0, none⟩) C.length cap), (17, .int .i64 (C.length : Int)), (18, .int .i64 (k : Int))]) (fun k : Nat => [row, [(b1, .cells ⟨strs C ++ sp1⟩ 9 (0, 0))], c]) (fun k : Nat => C.length - k) (0) (⟨Nat.zero_le _, fun j y hj => by omega⟩) ⟨rfl, rfl, rfl, rfl, rfl, rfl, rfl, rfl, trivial⟩ ⟨_, (take1 at0 (take1 at0 (take1 at0 take0)))⟩ (fun k hinv => ?_) 
    obtain ⟨hk, hno⟩ := hinv
    refine WP.seq <| WP.region <| v0 (S0.cmp rfl rfl rfl) rfl <| vE <| WP.seq <| ?_  -- cond
    first | refine WP.condP rfl (fun h2 => ?_) (fun h2 => ?_) | refine WP.condN rfl (fun h2 => ?_) (fun h2 => ?_) | refine WP.cond rfl (fun h2 => ?_) (fun h2 => ?_)
    · skip
      have hlt2 : k < C.length := by omega
      have hy : C[k]? = some C[k] := by simp [hlt2]
      have hyl := hcx _ (List.getElem_mem hlt2)
      generalize C[k] = y at hy hyl
      have hd := dom_at hcs hg hy
      have hdi : decide ((k : Int) = (i : Int)) = decide (k = i) := decide_eq_decide.2 (by omega)
      have hdl : decide ((k : Int) < (i : Int)) = decide (k < i) := decide_eq_decide.2 (by omega)
      have hgo : domS y x = false → ∀ j z, j < k + 1 → C[j]? = some z → domS z x = false := fun e => below_at (p := fun _ z => domS z x = false) hno hy e
      refine WP.skip <| WP.seq <| WP.block <| WP.seq <| WP.region <| v0 (S0.move rfl) rfl <| ?_  -- op t21 := indexAddr 23 t16 t18
      refine v0 (S0.index1 rfl rfl hlt2) rfl <| ?_
      refine v0 (S0.load rfl (strs_get hy)) rfl <| ?_
      refine v0 (S0.assign rfl) rfl <| v0 (S0.assign rfl) rfl <| vE <| WP.seq <| WP.region <| v0 (S0.move rfl) rfl <| v0 (S0.move rfl) rfl <| ?_  -- op t25 := indexAddr 23 t23 t24
      refine v0 (S0.index1 rfl rfl hlt) rfl <| ?_
      refine v0 (S0.load rfl (strs_get hg)) rfl <| ?_
      refine v0 (S0.move rfl) rfl <| ?_  -- op t28 := call F82{rivulet/topic.Covers}(t26, t27)
      refine vcd (S1.callF rfl (tcovers_spec (show x.length ≤ 100000 by omega) (show y.length ≤ 100000 by omega)) take0) rfl ?_
      refine v0 (S0.assign rfl) rfl <| vE <| WP.seq <| WP.region <| v0 (S0.move rfl) rfl <| v0 (S0.move rfl) rfl <| v0 (S0.cmp rfl rfl rfl) rfl <| v0 (S0.move rfl) rfl <| ?_  -- guard t32 (wants True) at t33 := move t7 [if #3=True]
      first | refine csP (t := 32) rfl (fun h3 => ?_) (fun h3 => ?_) | refine csN (t := 32) rfl (fun h3 => ?_) (fun h3 => ?_) | refine cs (t := 32) rfl (fun h3 => ?_) (fun h3 => ?_)
      · skip
        have hki : ¬ k = i := by omega
        refine gT rfl <| v0 (S0.move rfl) rfl <| gT rfl <| v0 (S0.move rfl) rfl <| gT rfl <| v0 (S0.move rfl) rfl <| ?_  -- op t36 := indexAddr 23 t34 t35 [if #3=True]
        refine gT rfl <| v0 (S0.index1 rfl rfl hlt) rfl <| ?_
        refine gT rfl <| v0 (S0.load rfl (strs_get hg)) rfl <| ?_
        -- (nothing to walk: op t38 := call F82{rivulet/topic.Covers}(t33, t37) [if #3=True])
        refine gT rfl <| vcd (S1.callF rfl (tcovers_spec (show y.length ≤ 100000 by omega) (show x.length ≤ 100000 by omega)) take0) rfl ?_
        refine v0 (S0.pickT rfl rfl) rfl <| v0 (S0.move rfl) rfl <| ?_  -- guard t40 (wants True) at t41 := move t8 [if #11=True]
        first | refine csP (t := 40) rfl (fun h4 => ?_) (fun h4 => ?_) | refine csN (t := 40) rfl (fun h4 => ?_) (fun h4 => ?_) | refine cs (t := 40) rfl (fun h4 => ?_) (fun h4 => ?_)
        · skip
          refine gT rfl <| v0 (S0.move rfl) rfl <| gT rfl <| v0 (S0.not rfl) rfl <| gT rfl <| v0 (S0.move rfl) rfl <| ?_  -- guard t43 (wants False) at t44 := move t6 [if #14=False]
          first | refine csP (t := 43) rfl (fun h5 => ?_) (fun h5 => ?_) | refine csN (t := 43) rfl (fun h5 => ?_) (fun h5 => ?_) | refine cs (t := 43) rfl (fun h5 => ?_) (fun h5 => ?_)
          · skip
            have h5' : coversS x y = false := by simpa using h5
            have hdt : domS y x = true := by rw [hd]; simp [hki, h4, h5']
            have hany : C.any (fun g => domS g x) = true := List.any_eq_true.2 ⟨y, List.mem_of_getElem? hy, hdt⟩
            refine gF rfl rfl <| gF rfl rfl <| gF rfl rfl <| gT rfl <| v0 (S0.pickT rfl rfl) rfl <| v0 (S0.pickT rfl rfl) rfl <| vE <| WP.condT rfl <| WP.exit <| WP.region <| v0 (S0.ari rfl rfl rfl (wrap_i64 (by omega))) rfl <| v0 (S0.move rfl) rfl <| vE <| ?_  -- roundend
            exact ⟨(i + 1, ov, row), (by first | exact ⟨hlt, by rw [htk, List.filter_append]; simpa [hany] using hsl⟩ | (dsimp only; exact ⟨hlt, by rw [htk, List.filter_append]; simpa [hany] using hsl⟩)), (show C.length - (i + 1) < C.length - i by omega), ⟨⟨rfl, rfl, rfl, rfl, trivial⟩, rfl, rfl⟩, ⟨_, (take1 at0 (take1 at0 (take1 at0 take0)))⟩⟩
          · skip
            have h5' : coversS x y = true := by simpa using h5
            refine gT rfl <| v0 (S0.move rfl) rfl <| gT rfl <| v0 (S0.move rfl) rfl <| gT rfl <| v0 (S0.cmp rfl rfl rfl) rfl <| gT rfl <| v0 (S0.pickF rfl rfl) rfl <| v0 (S0.pickT rfl rfl) rfl <| vE <| ?_  -- cond
            first | refine WP.condP rfl (fun h6 => ?_) (fun h6 => ?_) | refine WP.condN rfl (fun h6 => ?_) (fun h6 => ?_) | refine WP.cond rfl (fun h6 => ?_) (fun h6 => ?_)
            · skip
              have hdt : domS y x = true := by rw [hd]; simp [hki, h4, h5']; omega
              have hany : C.any (fun g => domS g x) = true := List.any_eq_true.2 ⟨y, List.mem_of_getElem? hy, hdt⟩
              refine WP.exit <| WP.region <| v0 (S0.ari rfl rfl rfl (wrap_i64 (by omega))) rfl <| v0 (S0.move rfl) rfl <| vE <| ?_  -- roundend
              exact ⟨(i + 1, ov, row), (by first | exact ⟨hlt, by rw [htk, List.filter_append]; simpa [hany] using hsl⟩ | (dsimp only; exact ⟨hlt, by rw [htk, List.filter_append]; simpa [hany] using hsl⟩)), (show C.length - (i + 1) < C.length - i by omega), ⟨⟨rfl, rfl, rfl, rfl, trivial⟩, rfl, rfl⟩, ⟨_, (take1 at0 (take1 at0 (take1 at0 take0)))⟩⟩
            · skip
              refine WP.skip <| WP.region <| v0 (S0.ari rfl rfl rfl (wrap_i64 (by omega))) rfl <| v0 (S0.move rfl) rfl <| vE <| ?_  -- roundend
              exact ⟨k + 1, (by first | exact ⟨hlt2, hgo (by rw [hd]; simp [hki, h4, h5']; omega)⟩ | (dsimp only; exact ⟨hlt2, hgo (by rw [hd]; simp [hki, h4, h5']; omega)⟩)), (by omega), ⟨⟨rfl, rfl, rfl, rfl, rfl, rfl, rfl, rfl, trivial⟩, rfl, rfl⟩, ⟨_, (take1 at0 (take1 at0 (take1 at0 take0)))⟩⟩
        · skip
          refine gF rfl rfl <| gF rfl rfl <| gF rfl rfl <| gF rfl rfl <| gF rfl rfl <| gF rfl rfl <| gF rfl rfl <| v0 (S0.pickF rfl rfl) rfl <| vE <| WP.condF rfl <| WP.skip <| WP.region <| v0 (S0.ari rfl rfl rfl (wrap_i64 (by omega))) rfl <| v0 (S0.move rfl) rfl <| vE <| ?_  -- roundend
          exact ⟨k + 1, (by first | exact ⟨hlt2, hgo (by rw [hd]; simp [h4])⟩ | (dsimp only; exact ⟨hlt2, hgo (by rw [hd]; simp [h4])⟩)), (by omega), ⟨⟨rfl, rfl, rfl, rfl, rfl, rfl, rfl, rfl, trivial⟩, rfl, rfl⟩, ⟨_, (take1 at0 (take1 at0 (take1 at0 take0)))⟩⟩
      · skip
        have hki : k = i := by omega
        refine gF rfl rfl <| gF rfl rfl <| gF rfl rfl <| gF rfl rfl <| gF rfl rfl <| gF rfl rfl <| v0 (S0.pickF rfl rfl) rfl <| v0 (S0.move rfl) rfl <| gF rfl rfl <| gF rfl rfl <| gF rfl rfl <| gF rfl rfl <| gF rfl rfl <| gF rfl rfl <| gF rfl rfl <| v0 (S0.pickF rfl rfl) rfl <| vE <| WP.condF rfl <| WP.skip <| WP.region <| v0 (S0.ari rfl rfl rfl (wrap_i64 (by omega))) rfl <| v0 (S0.move rfl) rfl <| vE <| ?_  -- roundend
        exact ⟨k + 1, (by first | exact ⟨hlt2, hgo (by rw [hd]; simp [hki])⟩ | (dsimp only; exact ⟨hlt2, hgo (by rw [hd]; simp [hki])⟩)), (by omega), ⟨⟨rfl, rfl, rfl, rfl, rfl, rfl, rfl, rfl, trivial⟩, rfl, rfl⟩, ⟨_, (take1 at0 (take1 at0 (take1 at0 take0)))⟩⟩
    · skip
      have hany : C.any (fun g => domS g x) = false := any_upto fun j y hj hy => hno j y (by omega) hy
      refine WP.exit <| WP.region <| v0 (S0.move rfl) rfl <| v0 (S0.move rfl) rfl <| v0 (S0.move rfl) rfl <| ?_  -- op t53 := indexAddr 23 t51 t52
      refine v0 (S0.index1 rfl rfl hlt) rfl <| ?_
      refine v0 (S0.load rfl (strs_get hg)) rfl <| ?_
      refine vnv (S1.buildSlice rfl (qs := [(0, _)]) rfl rfl) rfl fun b55 => ?_  -- op t56 := append(t50, t55) :[23, 23]
      refine ve (S1.appendL rfl hsl rfl rfl (atS at0) rfl rfl (by rw [strs_len]; simp; omega)) rfl ?_
      rintro v2 _ ⟨row2, hsl2, rfl⟩
      refine v0 (S0.assign rfl) rfl <| vE <| WP.region <| v0 (S0.ari rfl rfl rfl (wrap_i64 (by omega))) rfl <| v0 (S0.move rfl) rfl <| vE <| ?_  -- roundend
      exact ⟨(i + 1, v2, row2), (by first | exact ⟨hlt, by rw [htk, List.filter_append]; simpa [hany, strs] using hsl2⟩ | (dsimp only; exact ⟨hlt, by rw [htk, List.filter_append]; simpa [hany, strs] using hsl2⟩)), (show C.length - (i + 1) < C.length - i by omega), ⟨⟨rfl, rfl, rfl, rfl, trivial⟩, rfl, rfl⟩, ⟨_, (take1 at0 (take1 (atS at0) (take1 (atS at0) take0)))⟩⟩
  · skip
    have e : i = C.length := by omega
    subst e
    rw [List.take_length] at hsl
    refine WP.exit <| WP.seq <| WP.region <| v0 (S0.move rfl) rfl <| v0 (S0.assign rfl) rfl <| vE <| WP.ret <| ?_  -- ret
    refine Leaves.drop (take1 at0 (take1 (atS at0) take0)) ?_
    refine r1 rfl rfl ?_
    exact ⟨row, hsl, rfl⟩
end Go.Proofs.YtipljeomgdomnaaGreatDoor
/- CovA -/
namespace Go.Proofs.YtipljeomgdomnaaGreatDoor
open Go

-- left out: lets1_spec (rivulet/cover.Lets$1)






-- left out: lets_spec (rivulet/cover.Lets)







-- left out: holds1_spec (rivulet/cover.Holds$1)






-- left out: holds_spec (rivulet/cover.Holds)







end Go.Proofs.YtipljeomgdomnaaGreatDoor
/- CovB -/
namespace Go.Proofs.YtipljeomgdomnaaGreatDoor
open Go

theorem zeros_str (n : Nat) : (Builtin.zeroCells (Value.string ByteArray.empty).cells n).toList = List.replicate n (sv []) := by
  apply List.ext_getElem
  · simp [Builtin.zeroCells, Value.cells]
  · intro i h1 h2
    simp [Builtin.zeroCells, Value.cells, Nat.mod_one]
    rfl
theorem delete_spec {g : Nat} {caps : List Value} {cm : List Blk} {p : Str → Bool} {l : List Str} {v : Value} {row : List Blk} (hs : IsSl 9 1 v (strs l) row) (hl : l.length ≤ 1000000) (hc : ∀ x ∈ l, FN Tryz.prog g (sv x :: caps) [cm] (is (.bool (p x)) [cm])) :
    FN Tryz.prog 49 [v, .func (.func g) ⟨[]⟩ ⟨caps⟩] [row, cm] (fun u h => ∃ row2, IsSl 9 1 u (strs (l.filter fun x => !p x)) row2 ∧ h = [row2, cm]) := by
  obtain ⟨a, cap, rfl, hcap, hrow⟩ := hs.strsE
  refine FN.intro 42 [(0, .slice a l.length cap), (1, .func (.func g) ⟨[]⟩ ⟨caps⟩)] Tryz.func49 rfl (enters Tryz.func49 (by kernel_rfl) rfl) Tryz.ntmps49 rfl rfl ?_
  refine WP.seq <| WP.region <| v0 (S0.assign rfl) rfl <| vE <| WP.seq <| WP.region <| v0 (S0.move rfl) rfl <| v0 (S0.move rfl) rfl <| ?_  -- op t10 := call F79{slices.IndexFunc[[]string,string]}(t8, t9)
  refine vcd (S1.callF rfl (idxFuncS hs hl hc) (take1 at0 (take1 at0 take0))) rfl ?_
  skip
  cases hix : l.findIdx? p with
  | none =>
    skip
    have e0 : idxP p l = -1 := by simp [idxP, hix]
    rw [List.findIdx?_eq_none_iff] at hix
    have ef : (l.filter fun x => !p x) = l := List.filter_eq_self.2 fun x hx => by simp [hix x hx]
    rw [e0, ef]
    refine v0 (S0.assign rfl) rfl <| vE <| WP.seq <| WP.seq <| WP.region <| v0 (S0.move rfl) rfl <| v0 (S0.cmp rfl rfl rfl) rfl <| vE <| ?_  -- cond
    refine WP.condTh rfl (rfl) ?_
    refine WP.seq <| WP.region <| v0 (S0.move rfl) rfl <| v0 (S0.assign rfl) rfl <| vE <| WP.ret <| ?_  -- ret
    refine r1 rfl rfl ?_
    exact ⟨row, hs, rfl⟩
  | some i0 =>
    skip
    have e0 : idxP p l = (i0 : Int) := by simp [idxP, hix]
    rw [List.findIdx?_eq_some_iff_getElem] at hix
    obtain ⟨hlt0, hp0, hno0⟩ := hix
    have hno : ∀ x ∈ l.take i0, p x = false := fun x hx => by
      obtain ⟨j, hj, rfl⟩ := List.getElem_of_mem hx
      have hj' : j < i0 := by rw [List.length_take] at hj; omega
      have := hno0 j hj'
      simpa using this
    have ef0 : ((l.take (i0 + 1)).filter fun x => !p x) = l.take i0 := by
      have : l.take (i0 + 1) = l.take i0 ++ [l[i0]] := by rw [List.take_add_one, List.getElem?_eq_getElem hlt0]; rfl
      rw [this, List.filter_append, List.filter_eq_self.2 fun x hx => by simp [hno x hx]]
      simp [hp0]
    rw [e0]
    rcases hrow with ⟨rfl, -⟩ | ⟨b, sp, rfl, rfl, hsp⟩
    · simp at hlt0
    refine v0 (S0.assign rfl) rfl <| vE <| WP.seq <| WP.seq <| WP.region <| v0 (S0.move rfl) rfl <| v0 (S0.cmp rfl rfl rfl) rfl <| vE <| ?_  -- cond
    refine WP.condFh rfl ((decide_eq_false (by omega))) ?_
    refine WP.skip <| WP.seq <| WP.seq <| WP.region <| v0 (S0.move rfl) rfl <| v0 (S0.ari rfl rfl rfl (wrap_i64 (by omega))) rfl <| v0 (S0.assign rfl) rfl <| vE <| WP.block <| ?_  -- Code.loop
    refine WP.loop (fun st : Nat × Nat × List Str => st.1 < st.2.1 ∧ st.2.1 ≤ l.length ∧ st.2.2.length = l.length ∧ st.2.2.take st.1 = (l.take st.2.1).filter (fun x => !p x) ∧ st.2.2.drop st.2.1 = l.drop st.2.1) (fun st : Nat × Nat × List Str => [(0, .slice (some ⟨b, 0, none⟩) l.length cap), (1, .func (.func g) ⟨[]⟩ ⟨caps⟩), (5, .int .i64 (st.1 : Int)), (6, .int .i64 (st.2.1 : Int))]) (fun st : Nat × Nat × List Str => [[(b, .cells ⟨strs st.2.2 ++ sp⟩ 9 (0, 0))], cm]) (fun st : Nat × Nat × List Str => l.length - st.2.1) ((i0, i0 + 1, l)) (⟨show i0 < i0 + 1 by omega, show i0 + 1 ≤ l.length by omega, rfl, ef0.symm, rfl⟩) ⟨rfl, rfl, rfl, rfl, trivial⟩ ⟨_, (take1 at0 (take1 at0 take0))⟩ (fun st hinv => ?_) 
    obtain ⟨i, j, M⟩ := st
    obtain ⟨hij, hj, hM, htk, hdr⟩ := hinv
    dsimp only at hij hj hM htk hdr ⊢
    refine WP.seq <| WP.seq <| WP.region <| v0 (S0.move rfl) rfl <| v0 (S0.move rfl) rfl <| v0 (S0.lenSl rfl) rfl <| v0 (S0.cmp rfl rfl rfl) rfl <| vE <| ?_  -- cond
    first | refine WP.condP rfl (fun h1 => ?_) (fun h1 => ?_) | refine WP.condN rfl (fun h1 => ?_) (fun h1 => ?_) | refine WP.cond rfl (fun h1 => ?_) (fun h1 => ?_)
    · skip
      have hlt : j < l.length := by omega
      have hlM : j < M.length := by omega
      have hx : l[j]? = some l[j] := by simp [hlt]
      have hxm : l[j] ∈ l := List.getElem_mem hlt
      generalize l[j] = x at hx hxm
      have hxM : M[j]? = some x := by
        have := congrArg (·[0]?) hdr
        simp only [List.getElem?_drop, Nat.add_zero] at this
        rw [this, hx]
      have htl : l.take (j + 1) = l.take j ++ [x] := by rw [List.take_add_one, hx]; rfl
      have hdr2 : M.drop (j + 1) = l.drop (j + 1) := by
        have := congrArg (List.drop 1) hdr
        simpa [List.drop_drop] using this
      refine WP.skip <| WP.seq <| WP.block <| WP.seq <| WP.region <| v0 (S0.move rfl) rfl <| v0 (S0.move rfl) rfl <| ?_  -- op t24 := indexAddr 23 t22 t23
      refine v0 (S0.index1 rfl rfl hlt) rfl <| ?_
      refine v0 (S0.load rfl (strs_get hxM)) rfl <| ?_
      refine v0 (S0.assign rfl) rfl <| vE <| WP.seq <| WP.region <| v0 (S0.move rfl) rfl <| v0 (S0.move rfl) rfl <| ?_  -- op t28 := call t26(t27)
      refine vcd (S1.callC rfl rfl rfl (hc x hxm) (take1 (atS at0) take0)) rfl ?_
      refine v0 (S0.not rfl) rfl <| vE <| ?_  -- cond
      first | refine WP.condP rfl (fun h2 => ?_) (fun h2 => ?_) | refine WP.condN rfl (fun h2 => ?_) (fun h2 => ?_) | refine WP.cond rfl (fun h2 => ?_) (fun h2 => ?_)
      · skip
        have hset : (strs M ++ sp).set i (sv x) = strs (M.set i x) ++ sp := by
          rw [List.set_append_left _ _ (by simp [strs]; omega)]
          simp [strs]
        refine WP.seq <| WP.region <| v0 (S0.move rfl) rfl <| v0 (S0.move rfl) rfl <| v0 (S0.move rfl) rfl <| ?_  -- op t33 := indexAddr 23 t30 t31
        refine v0 (S0.index1 rfl rfl (show i < l.length by omega)) rfl <| ?_
        skip
        refine vs (S1.storeI rfl rfl rfl hset (by simp [strs]; omega)) <| ?_
        refine vE <| WP.region <| v0 (S0.move rfl) rfl <| v0 (S0.ari rfl rfl rfl (wrap_i64 (by omega))) rfl <| v0 (S0.assign rfl) rfl <| vE <| WP.region <| v0 (S0.move rfl) rfl <| v0 (S0.ari rfl rfl rfl (wrap_i64 (by omega))) rfl <| v0 (S0.assign rfl) rfl <| vE <| ?_  -- roundend
        exact ⟨(i + 1, j + 1, M.set i x), (by first | exact ⟨show i + 1 < j + 1 by omega, hlt, by simp [hM], by
          show (M.set i x).take (i + 1) = (l.take (j + 1)).filter _
          rw [List.take_add_one, List.take_set_of_le (Nat.le_refl _), htk, htl, List.filter_append]
          have : i < M.length := by omega
          simp [this, h2], by
          show (M.set i x).drop (j + 1) = l.drop (j + 1)
          rw [List.drop_set_of_lt (by omega), hdr2]⟩ | (dsimp only; exact ⟨show i + 1 < j + 1 by omega, hlt, by simp [hM], by
          show (M.set i x).take (i + 1) = (l.take (j + 1)).filter _
          rw [List.take_add_one, List.take_set_of_le (Nat.le_refl _), htk, htl, List.filter_append]
          have : i < M.length := by omega
          simp [this, h2], by
          show (M.set i x).drop (j + 1) = l.drop (j + 1)
          rw [List.drop_set_of_lt (by omega), hdr2]⟩)), (show l.length - (j + 1) < l.length - j by omega), ⟨⟨rfl, rfl, rfl, rfl, trivial⟩, rfl, rfl⟩, ⟨_, (take1 (atS at0) (take1 at0 take0))⟩⟩
      · skip
        have hp : p x = true := by simpa using h2
        refine WP.skip <| WP.region <| v0 (S0.move rfl) rfl <| v0 (S0.ari rfl rfl rfl (wrap_i64 (by omega))) rfl <| v0 (S0.assign rfl) rfl <| vE <| ?_  -- roundend
        exact ⟨(i, j + 1, M), (by first | exact ⟨show i < j + 1 by omega, hlt, hM, by show M.take i = (l.take (j + 1)).filter _; rw [htk, htl, List.filter_append]; simp [hp], hdr2⟩ | (dsimp only; exact ⟨show i < j + 1 by omega, hlt, hM, by show M.take i = (l.take (j + 1)).filter _; rw [htk, htl, List.filter_append]; simp [hp], hdr2⟩)), (show l.length - (j + 1) < l.length - j by omega), ⟨⟨rfl, rfl, rfl, rfl, trivial⟩, rfl, rfl⟩, ⟨_, (take1 (atS at0) (take1 at0 take0))⟩⟩
    · skip
      have e : j = l.length := by omega
      rw [e, List.take_length] at htk
      have hif : i = (l.filter fun x => !p x).length := by rw [← htk, List.length_take]; omega
      have hslen : (strs M).length = l.length := by simp [strs, hM]
      refine WP.exit <| WP.seq <| WP.region <| v0 (S0.move rfl) rfl <| v0 (S0.move rfl) rfl <| ?_  -- op t38 := slice 23 t36 t37 none none
      refine v0 (S0.slice (i := i) (j := l.length) rfl rfl rfl ⟨by omega, hcap⟩) rfl <| ?_
      rw [if_neg (show ¬ cap = i by omega)]
      refine vs (S1.clearSl (k := 1) (zv := .string ByteArray.empty) rfl (by omega) (by rw [List.length_append, hslen]; omega) rfl (by rw [zeros_str]; intro v hv; rw [List.eq_of_mem_replicate hv]; rfl)) <| ?_
      have ecl : (strs M ++ sp).take (0 + i * 1) ++ (Builtin.zeroCells (Value.string ByteArray.empty).cells (l.length - i)).toList ++ (strs M ++ sp).drop (0 + i * 1 + (l.length - i) * 1) = strs (l.filter fun x => !p x) ++ (List.replicate (l.length - i) (sv []) ++ sp) := by
        rw [zeros_str, ← htk, List.take_append_of_le_length (by omega), List.drop_append, List.drop_eq_nil_of_le (by omega), show 0 + i * 1 + (l.length - i) * 1 - (strs M).length = 0 by omega]
        simp [strs]
      rw [ecl]
      refine vE <| WP.seq <| WP.region <| v0 (S0.move rfl) rfl <| v0 (S0.move rfl) rfl <| ?_  -- op t41 := slice 23 t39 none t40 none
      refine v0 (S0.slice (i := 0) (j := i) rfl rfl rfl ⟨by omega, by omega⟩) rfl <| ?_
      refine v0 (S0.assign rfl) rfl <| vE <| WP.ret <| ?_  -- ret
      refine r1 rfl rfl ?_
      refine ⟨_, ?_, rfl⟩
      rw [show (if cap = 0 then 0 else 0 + 0 * 1) = 0 by split <;> rfl, Nat.sub_zero, Nat.sub_zero]
      refine IsSl.row (by simp only [strs, List.length_map]; omega) ?_ (by omega)
      simp only [List.length_append, strs, List.length_map, List.length_replicate] at hsp hslen ⊢
      omega
theorem FN.ent {P : Program} {g : Nat} {args : List Value} {h : Hp} {post : Value → Hp → Prop} (H : FN P g args h post) : ∀ a w, (callFunc g a).run P w = .ok (.enter g a) w := H.enters
/-- the box of a slice and its row: one chunk -/
theorem inm_spec {mv : Value} {m : List Str} {mrow : List Blk} {b : Nat} {x : Str} (hm : IsSl 9 1 mv (strs m) mrow) (hl : m.length ≤ 1000000) : FN Tryz.prog 51 [sv x, .pointer (some ⟨b, 0, none⟩)] [(b, cel [mv] 23) :: mrow] (is (.bool (decide (x ∈ m))) [(b, cel [mv] 23) :: mrow]) := by
  have H : FN Tryz.prog 51 [sv x, .pointer (some ⟨b, 0, none⟩)] [[(b, cel [mv] 23)], mrow] (is (.bool (decide (x ∈ m))) [[(b, cel [mv] 23)], mrow]) := by
    refine FN.intro 7 [(0, sv x), (1, .pointer (some ⟨b, 0, none⟩))] Tryz.func51 rfl (enters Tryz.func51 (by kernel_rfl) rfl) Tryz.ntmps51 rfl rfl ?_
    refine WP.seq <| WP.region <| v0 (S0.assign rfl) rfl <| vE <| WP.seq <| WP.region <| v0 (S0.load rfl rfl) rfl <| v0 (S0.move rfl) rfl <| ?_  -- op t6 := call F52{slices.Contains[[]string,string]}(t4, t5)
    refine vcd (S1.callF rfl (contains_spec hm.rdS hl) (take1 (atS at0) take0)) rfl ?_
    refine v0 (S0.assign rfl) rfl <| vE <| WP.ret <| ?_  -- ret
    refine Leaves.drop (take1 (atS at0) (take1 at0 take0)) ?_
    refine r1 rfl rfl ⟨?_, rfl⟩
    rfl
  exact FN.join H (by simp) _ fun v h' ⟨e1, e2⟩ => ⟨_, ⟨e1, rfl⟩, by rw [e2]; simp⟩
theorem diff1_spec {lv mv : Value} {l m : List Str} {lrow mrow : List Blk} (hl : IsSl 9 1 lv (strs l) lrow) (hm : IsSl 9 1 mv (strs m) mrow) (hll : l.length ≤ 1000000) (hml : m.length ≤ 1000000) :
    FN Tryz.prog 48 [lv, mv] [lrow, mrow] (fun u h => ∃ row, IsSl 9 1 u (strs (withoutS l m)) row ∧ h = [row, lrow, mrow]) := by
  have hm' := hm
  obtain ⟨ma, mc, rfl, -, -⟩ := hm'.strsE
  refine FN.intro 9 [(0, lv), (1, .slice ma m.length mc)] Tryz.func48 rfl (enters Tryz.func48 (by kernel_rfl) rfl) Tryz.ntmps48 rfl rfl ?_
  refine WP.seq <| WP.region <| vn (S1.box rfl rfl) rfl fun b3 => v0 (S0.assign rfl) rfl <| vE <| WP.seq <| WP.region <| v0 (S0.move rfl) rfl <| ?_  -- op t6 := call F50{slices.Clone[[]string,string]}(t5)
  refine vc (S1.callF rfl (clone_spec hl hll) (take1 (atS at0) take0)) rfl ?_
  rintro u _ ⟨crow, hsc, rfl⟩
  refine app ?_
  refine v0 (S0.makeFunc rfl rfl) rfl <| ?_  -- op t8 := call F49{slices.DeleteFunc[[]string,string]}(t6, t7)
  refine WO.perm (h' := [crow, (b3, cel [.slice ma m.length mc] 23) :: mrow, lrow]) (k := []) (by
    simp only [List.flatten_cons, List.flatten_nil, List.append_nil, List.cons_append, List.nil_append]
    refine List.Perm.append_left _ ?_
    exact List.perm_append_comm.trans (by simp)) ?_
  refine vc (S1.callF rfl (delete_spec (p := fun x => decide (x ∈ m)) hsc hll (fun x _ => inm_spec hm hml)) (take1 at0 (take1 at0 take0))) rfl ?_
  rintro u2 _ ⟨row2, hs2, rfl⟩
  refine app ?_
  refine v0 (S0.assign rfl) rfl <| vE <| WP.ret <| ?_  -- ret
  refine Leaves.drop (h' := [row2, lrow, mrow]) (k := [[(b3, cel [.slice ma m.length mc] 23)]]) (by
    simp only [List.flatten_cons, List.flatten_nil, List.append_nil, List.cons_append, List.append_assoc]
    refine List.Perm.append_left _ ?_
    refine (List.perm_append_comm (l₁ := _ :: mrow)).trans ?_
    exact List.Perm.append_left _ (List.perm_append_comm (l₁ := [_]))) ?_
  refine r1 rfl rfl ?_
  exact ⟨row2, hs2, rfl⟩
theorem diff_spec {ov nv : Value} {l m : List Str} {oc nc : List Blk} (ho : RdS ov l oc) (hn : RdS nv m nc) (hox : ∀ x ∈ l, x.length ≤ 1000) (hol : l.length ≤ 1000) (hnx : ∀ x ∈ m, x.length ≤ 1000) (hnl : m.length ≤ 1000) :
    FN Tryz.prog 31 [ov, nv] [oc, nc] (fun u h => ∃ v1 v2 r1 r2, IsSl 9 1 v1 (strs (withoutS (cleanS m) (cleanS l))) r1 ∧ IsSl 9 1 v2 (strs (withoutS (cleanS l) (cleanS m))) r2 ∧ u = .tuple ⟨[v1, v2]⟩ ∧ h = [r1, r2, oc, nc]) := by
  have hcl := clean_len l
  have hcm := clean_len m
  refine FN.intro 21 [(0, ov), (1, nv)] Tryz.func31 rfl (enters Tryz.func31 (by kernel_rfl) rfl) Tryz.ntmps31 rfl rfl ?_
  refine WP.seq <| WP.region <| v0 (S0.assign rfl) rfl <| v0 (S0.assign rfl) rfl <| vE <| WP.seq <| WP.region <| v0 (S0.move rfl) rfl <| ?_  -- op t10 := call F47{rivulet/cover.clean}(t9)
  refine vc (S1.callF rfl (clean_spec ho hox hol) (take1 at0 take0)) rfl ?_
  rintro va _ ⟨ra, hsa, rfl⟩
  refine app ?_
  refine v0 (S0.move rfl) rfl <| ?_  -- op t12 := call F47{rivulet/cover.clean}(t11)
  refine vc (S1.callF rfl (clean_spec hn hnx hnl) (take1 (atS (atS at0)) take0)) rfl ?_
  rintro vb _ ⟨rb, hsb, rfl⟩
  refine app ?_
  refine v0 (S0.assign rfl) rfl <| v0 (S0.assign rfl) rfl <| vE <| WP.seq <| WP.region <| v0 (S0.assign rfl) rfl <| vE <| WP.seq <| WP.region <| v0 (S0.move rfl) rfl <| v0 (S0.move rfl) rfl <| v0 (S0.move rfl) rfl <| ?_  -- op t16 := call t13(t14, t15)
  refine vc (S1.callC rfl rfl rfl (diff1_spec hsb hsa (by omega) (by omega)) (take1 at0 (take1 (atS at0) take0))) rfl ?_
  rintro v1 _ ⟨r1', hs1, rfl⟩
  refine app ?_
  refine v0 (S0.move rfl) rfl <| v0 (S0.move rfl) rfl <| v0 (S0.move rfl) rfl <| ?_  -- op t20 := call t17(t18, t19)
  refine vc (S1.callC rfl rfl rfl (diff1_spec hsa hsb (by omega) (by omega)) (take1 (atS (atS at0)) (take1 (atS at0) take0))) rfl ?_
  rintro v2 _ ⟨r2', hs2, rfl⟩
  refine app ?_
  refine v0 (S0.assign rfl) rfl <| v0 (S0.assign rfl) rfl <| vE <| WP.ret <| ?_  -- ret
  refine Leaves.drop (take1 (atS (atS (atS at0))) (take1 at0 (take1 (atS (atS (atS at0))) (take1 (atS (atS at0)) take0)))) ?_
  refine r2 rfl rfl rfl ?_
  exact ⟨v1, v2, r1', r2', hs1, hs2, rfl, rfl⟩

/-! slices.Concat at two rows -/
theorem grow_spec {n : Nat} (hn : n ≤ 1000000) : FN Tryz.prog 83 [.slice none 0 0, .int .i64 (n : Int)] [] (fun u h => ∃ row, IsSl 9 1 u [] row ∧ h = [row]) := by
  refine FN.intro 27 [(0, .slice none 0 0), (1, .int .i64 (n : Int))] Tryz.func83 rfl (enters Tryz.func83 (by kernel_rfl) rfl) Tryz.ntmps83 rfl rfl ?_
  refine WP.seq <| WP.region <| v0 (S0.assign rfl) rfl <| vE <| WP.seq <| WP.seq <| WP.region <| v0 (S0.move rfl) rfl <| v0 (S0.cmp rfl rfl rfl) rfl <| vE <| ?_  -- cond
  refine WP.condFh rfl ((decide_eq_false (by omega))) ?_
  refine WP.skip <| WP.seq <| WP.seq <| WP.region <| v0 (S0.move rfl) rfl <| v0 (S0.move rfl) rfl <| v0 (S0.capSl rfl) rfl <| v0 (S0.move rfl) rfl <| v0 (S0.lenSl rfl) rfl <| v0 (S0.ari rfl rfl rfl (wrap_i64 (by omega))) rfl <| v0 (S0.ari rfl rfl rfl (wrap_i64 (by omega))) rfl <| v0 (S0.assign rfl) rfl <| vE <| WP.seq <| WP.region <| v0 (S0.move rfl) rfl <| v0 (S0.cmp rfl rfl rfl) rfl <| vE <| ?_  -- cond
  first | refine WP.condP rfl (fun h1 => ?_) (fun h1 => ?_) | refine WP.condN rfl (fun h1 => ?_) (fun h1 => ?_) | refine WP.cond rfl (fun h1 => ?_) (fun h1 => ?_)
  · skip
    rw [show ((n : Int) - (((0 : Nat) : Int) - ((0 : Nat) : Int))) = (n : Int) by omega] at h1 ⊢
    refine WP.region <| v0 (S0.move rfl) rfl <| v0 (S0.move rfl) rfl <| v0 (S0.capSl rfl) rfl <| ?_  -- op t20 := slice 23 t17 none t19 none
    refine v0 (S0.sliceN rfl trivial rfl) rfl <| ?_
    refine v0 (S0.move rfl) rfl <| ?_  -- op t22 := append(t20, t21) :[23, 3]
    refine ve (S1.growNil rfl rfl (by omega) (by omega)) rfl ?_
    rintro v1 _ ⟨b, nc, sp, hle, hsp, rfl, rfl⟩
    refine v0 (S0.move rfl) rfl <| v0 (S0.lenSl rfl) rfl <| ?_  -- op t25 := slice 23 t22 none t24 none
    refine v0 (S0.slice (i := 0) (j := 0) rfl rfl rfl ⟨by omega, by omega⟩) rfl <| ?_
    refine v0 (S0.assign rfl) rfl <| vE <| WP.seq <| WP.region <| v0 (S0.move rfl) rfl <| v0 (S0.assign rfl) rfl <| vE <| WP.ret <| ?_  -- ret
    refine r1 rfl rfl ?_
    refine ⟨_, ?_, rfl⟩
    rw [show (if nc = 0 then 0 else 0 + 0 * 1) = 0 by split <;> rfl]
    exact IsSl.row (n := 0) (c := nc) (l := []) (sp := sp) rfl (by simpa [Value.cells] using hsp) (Nat.zero_le _)
  · skip
    refine WP.perm (h' := [[]]) (k := []) (by simp) ?_
    refine WP.skip <| WP.seq <| WP.region <| v0 (S0.move rfl) rfl <| v0 (S0.assign rfl) rfl <| vE <| WP.ret <| ?_  -- ret
    refine r1 rfl rfl ?_
    exact ⟨[], IsSl.nil, rfl⟩
theorem concat_spec {va vb : Value} {A B : List Str} {c : List Blk} {b0 : Nat} (ha : RdS va A c) (hb : RdS vb B c) (hal : A.length ≤ 1000) (hbl : B.length ≤ 1000) :
    FN Tryz.prog 57 [.slice (some ⟨b0, 0, none⟩) 2 2] [[(b0, .cells ⟨[va, vb]⟩ 23 (0, 0))], c] (fun u h => ∃ row, IsSl 9 1 u (strs (A ++ B)) row ∧ h = [row, [(b0, .cells ⟨[va, vb]⟩ 23 (0, 0))], c]) := by
  have ha' := ha
  have hb' := hb
  obtain ⟨aa, ac, rfl, -, -⟩ := ha'
  obtain ⟨ba, bc, rfl, -, -⟩ := hb'
  have hget : ∀ i : Nat, i < 2 → ∃ R x, R.length ≤ 1000 ∧ RdS x R c ∧ ([Value.slice aa A.length ac, Value.slice ba B.length bc] : List Value)[i]? = some x ∧ ((([A, B] : List (List Str)).take (i + 1)).flatten = (([A, B] : List (List Str)).take i).flatten ++ R) := fun i hi => by
    match i, hi with
    | 0, _ => exact ⟨A, _, hal, ha, rfl, by simp⟩
    | 1, _ => exact ⟨B, _, hbl, hb, rfl, by simp⟩
  have hfl : ∀ i : Nat, i ≤ 2 → ((([A, B] : List (List Str)).take i).flatten).length ≤ 2000 := fun i hi => by
    match i, hi with
    | 0, _ => simp
    | 1, _ => simp; omega
    | 2, _ => simp; omega
  generalize ([Value.slice aa A.length ac, Value.slice ba B.length bc] : List Value) = CS at hget
  refine FN.intro 36 [(0, .slice (some ⟨b0, 0, none⟩) 2 2)] Tryz.func57 rfl (enters Tryz.func57 (by kernel_rfl) rfl) Tryz.ntmps57 rfl rfl ?_
  refine WP.seq <| WP.region <| v0 (S0.assign rfl) rfl <| vE <| WP.seq <| WP.region <| v0 (S0.assign rfl) rfl <| vE <| WP.seq <| WP.seq <| WP.region <| v0 (S0.move rfl) rfl <| v0 (S0.lenSl rfl) rfl <| v0 (S0.move rfl) rfl <| vE <| WP.block <| ?_  -- Code.loop
  refine WP.loop (fun st : Nat × Int => st.1 ≤ 2 ∧ st.2 = (((([A, B] : List (List Str)).take st.1).flatten).length : Int)) (fun st : Nat × Int => [(3, .int .i64 st.2), (0, .slice (some ⟨b0, 0, none⟩) 2 2), (9, .slice (some ⟨b0, 0, none⟩) 2 2), (10, .int .i64 2), (11, .int .i64 (st.1 : Int))]) (fun st : Nat × Int => [[(b0, .cells ⟨CS⟩ 23 (0, 0))], c]) (fun st : Nat × Int => 2 - st.1) ((0, 0)) (⟨Nat.zero_le _, by simp⟩) ⟨rfl, rfl, rfl, rfl, rfl, trivial⟩ ⟨_, (take1 at0 (take1 at0 take0))⟩ (fun st hinv => ?_) 
  obtain ⟨i, n⟩ := st
  obtain ⟨hi, hn⟩ := hinv
  dsimp only at hi hn ⊢
  have hfi := hfl i hi
  refine WP.seq <| WP.region <| v0 (S0.cmp rfl rfl rfl) rfl <| vE <| WP.seq <| ?_  -- cond
  first | refine WP.condP rfl (fun h1 => ?_) (fun h1 => ?_) | refine WP.condN rfl (fun h1 => ?_) (fun h1 => ?_) | refine WP.cond rfl (fun h1 => ?_) (fun h1 => ?_)
  · skip
    have hlt : i < 2 := by omega
    obtain ⟨R, x, hRl, hRx, hgx, htk⟩ := hget i hlt
    obtain ⟨xa, xc, rfl, -, -⟩ := hRx
    have hfi2 := hfl (i + 1) hlt
    refine WP.skip <| WP.seq <| WP.block <| WP.seq <| WP.region <| ?_  -- op t13 := indexAddr 110 t9 t11
    refine v0 (S0.index1 rfl rfl hlt) rfl <| ?_
    refine v0 (S0.load rfl hgx) rfl <| ?_
    refine v0 (S0.assign rfl) rfl <| vE <| WP.seq <| WP.region <| v0 (S0.move rfl) rfl <| v0 (S0.move rfl) rfl <| v0 (S0.lenSl rfl) rfl <| v0 (S0.ari rfl rfl rfl (wrap_i64 (by omega))) rfl <| v0 (S0.assign rfl) rfl <| vE <| WP.seq <| WP.region <| v0 (S0.move rfl) rfl <| v0 (S0.cmp rfl rfl rfl) rfl <| vE <| ?_  -- cond
    refine WP.condFh rfl ((decide_eq_false (by omega))) ?_
    refine WP.skip <| WP.region <| v0 (S0.ari rfl rfl rfl (wrap_i64 (by omega))) rfl <| v0 (S0.move rfl) rfl <| vE <| ?_  -- roundend
    exact ⟨(i + 1, n + R.length), (by first | exact ⟨hlt, by show n + R.length = _; rw [hn]; simp only [htk, List.length_append]; omega⟩ | (dsimp only; exact ⟨hlt, by show n + R.length = _; rw [hn]; simp only [htk, List.length_append]; omega⟩)), (show 2 - (i + 1) < 2 - i by omega), ⟨⟨rfl, rfl, rfl, rfl, rfl, trivial⟩, rfl, rfl⟩, ⟨_, (take1 at0 (take1 at0 take0))⟩⟩
  · skip
    have e : i = 2 := by omega
    subst e
    have hn' : n = ((A ++ B).length : Int) := by rw [hn]; simp
    have hab : (A ++ B).length ≤ 2000 := by simp; omega
    subst hn'
    refine WP.exit <| WP.seq <| WP.region <| v0 (S0.move rfl) rfl <| ?_  -- op t24 := call F83{slices.Grow[[]string,string]}(Value.slice none 0 0, t23)
    refine vc (S1.callF rfl (grow_spec (show (A ++ B).length ≤ 1000000 by omega)) take0) rfl ?_
    rintro gv _ ⟨grow_, hgs, rfl⟩
    refine app ?_
    refine v0 (S0.assign rfl) rfl <| vE <| WP.seq <| WP.seq <| WP.region <| v0 (S0.move rfl) rfl <| v0 (S0.lenSl rfl) rfl <| v0 (S0.move rfl) rfl <| vE <| WP.block <| ?_  -- Code.loop
    refine WP.loop (fun st : Nat × Value × List Blk => st.1 ≤ 2 ∧ IsSl 9 1 st.2.1 (strs ((([A, B] : List (List Str)).take st.1).flatten)) st.2.2) (fun st : Nat × Value × List Blk => [(6, st.2.1), (25, .slice (some ⟨b0, 0, none⟩) 2 2), (26, .int .i64 2), (27, .int .i64 (st.1 : Int))]) (fun st : Nat × Value × List Blk => [st.2.2, [(b0, .cells ⟨CS⟩ 23 (0, 0))], c]) (fun st : Nat × Value × List Blk => 2 - st.1) ((0, gv, grow_)) (⟨Nat.zero_le _, hgs⟩) ⟨rfl, rfl, rfl, rfl, trivial⟩ ⟨_, (take1 at0 (take1 at0 (take1 at0 take0)))⟩ (fun st hinv => ?_) 
    obtain ⟨j, ov, row⟩ := st
    obtain ⟨hj, hsl⟩ := hinv
    dsimp only at hj hsl ⊢
    have hfj := hfl j hj
    refine WP.seq <| WP.region <| v0 (S0.cmp rfl rfl rfl) rfl <| vE <| WP.seq <| ?_  -- cond
    first | refine WP.condP rfl (fun h2 => ?_) (fun h2 => ?_) | refine WP.condN rfl (fun h2 => ?_) (fun h2 => ?_) | refine WP.cond rfl (fun h2 => ?_) (fun h2 => ?_)
    · skip
      have hlt : j < 2 := by omega
      obtain ⟨R, x, hRl, hRx, hgx, htk⟩ := hget j hlt
      refine WP.skip <| WP.seq <| WP.block <| WP.seq <| WP.region <| ?_  -- op t29 := indexAddr 110 t25 t27
      refine v0 (S0.index1 rfl rfl hlt) rfl <| ?_
      refine v0 (S0.load rfl hgx) rfl <| ?_
      refine v0 (S0.assign rfl) rfl <| vE <| WP.region <| v0 (S0.move rfl) rfl <| v0 (S0.move rfl) rfl <| ?_  -- op t33 := append(t31, t32) :[23, 23]
      refine ve (S1.appendRd rfl hsl rfl hRx (fun q hq => List.mem_flatten.2 ⟨_, by simp, hq⟩) at0 rfl (by rw [strs_len]; omega)) rfl ?_
      rintro v2 _ ⟨row2, hs2, rfl⟩
      refine v0 (S0.assign rfl) rfl <| vE <| WP.region <| v0 (S0.ari rfl rfl rfl (wrap_i64 (by omega))) rfl <| v0 (S0.move rfl) rfl <| vE <| ?_  -- roundend
      exact ⟨(j + 1, v2, row2), (by first | exact ⟨hlt, by show IsSl _ _ v2 (strs ((([A, B] : List (List Str)).take (j + 1)).flatten)) row2; rw [htk]; simpa [strs] using hs2⟩ | (dsimp only; exact ⟨hlt, by show IsSl _ _ v2 (strs ((([A, B] : List (List Str)).take (j + 1)).flatten)) row2; rw [htk]; simpa [strs] using hs2⟩)), (show 2 - (j + 1) < 2 - j by omega), ⟨⟨rfl, rfl, rfl, rfl, trivial⟩, rfl, rfl⟩, ⟨_, (take1 at0 (take1 at0 (take1 at0 take0)))⟩⟩
    · skip
      have e : j = 2 := by omega
      subst e
      refine WP.exit <| WP.seq <| WP.region <| v0 (S0.move rfl) rfl <| v0 (S0.assign rfl) rfl <| vE <| WP.ret <| ?_  -- ret
      refine r1 rfl rfl ?_
      refine ⟨row, ?_, rfl⟩
      simpa using hsl
theorem join_spec {va vb : Value} {A B : List Str} {c : List Blk} (ha : RdS va A c) (hb : RdS vb B c) (hal : A.length ≤ 500) (hbl : B.length ≤ 500) (hax : ∀ x ∈ A, x.length ≤ 1000) (hbx : ∀ x ∈ B, x.length ≤ 1000) :
    FN Tryz.prog 35 [va, vb] [c] (fun u h => ∃ row, IsSl 9 1 u (strs (leastS (A ++ B))) row ∧ h = [row, c]) := by
  have ha' := ha
  have hb' := hb
  obtain ⟨aa, ac, rfl, -, -⟩ := ha'
  obtain ⟨ba, bc, rfl, -, -⟩ := hb'
  refine FN.intro 10 [(0, .slice aa A.length ac), (1, .slice ba B.length bc)] Tryz.func35 rfl (enters Tryz.func35 (by kernel_rfl) rfl) Tryz.ntmps35 rfl rfl ?_
  refine WP.seq <| WP.region <| v0 (S0.assign rfl) rfl <| vE <| WP.seq <| WP.region <| v0 (S0.move rfl) rfl <| v0 (S0.move rfl) rfl <| vnv (S1.buildSlice rfl (qs := [(0, _), (1, _)]) rfl rfl) rfl fun b7 => ?_  -- op t8 := call F57{slices.Concat[[]string,string]}(t7)
  refine vc (S1.callF rfl (concat_spec ha hb (by omega) (by omega)) (take1 at0 (take1 at0 take0))) rfl ?_
  rintro u _ ⟨row, hs, rfl⟩
  refine app ?_
  -- (nothing to walk: op t9 := call F56{rivulet/cover.Least}(t8))
  refine vc (S1.callF rfl (least_spec hs.rdS (fun x hx => (List.mem_append.1 hx).elim (hax x) (hbx x)) (by simp; omega)) (take1 at0 take0)) rfl ?_
  rintro u2 _ ⟨row2, hs2, rfl⟩
  refine app ?_
  refine v0 (S0.assign rfl) rfl <| vE <| WP.ret <| ?_  -- ret
  refine Leaves.drop (take1 at0 (take1 (atS (atS at0)) take0)) ?_
  refine r1 rfl rfl ?_
  exact ⟨row2, hs2, rfl⟩
/-- of two chunks -/
theorem join2_spec {va vb : Value} {A B : List Str} {ca cb : List Blk} (ha : RdS va A ca) (hb : RdS vb B cb) (hal : A.length ≤ 500) (hbl : B.length ≤ 500) (hax : ∀ x ∈ A, x.length ≤ 1000) (hbx : ∀ x ∈ B, x.length ≤ 1000) :
    FN Tryz.prog 35 [va, vb] [ca, cb] (fun u h => ∃ row, IsSl 9 1 u (strs (leastS (A ++ B))) row ∧ h = [row, ca, cb]) :=
  FN.join (join_spec (ha.mono fun p hp => List.mem_append.2 (.inl hp)) (hb.mono fun p hp => List.mem_append.2 (.inr hp)) hal hbl hax hbx) (by simp) _ fun v h' ⟨row, hs, e⟩ => ⟨_, ⟨row, hs, rfl⟩, by rw [e]; simp⟩
end Go.Proofs.YtipljeomgdomnaaGreatDoor
/- T11 -/
/-
  The document's asks as a row: where one stands, what is changed and taken away there.
-/
namespace Go.Proofs.YtipljeomgdomnaaGreatDoor
open Go

abbrev enK (x : Str × Int × Int) : List Value := [sv x.1, .int .i64 x.2.1, .int .i64 x.2.2]
theorem enK_len (x : Str × Int × Int) : (enK x).length = 2 + 1 := rfl
def isK (f : Str) (i : Int) (x : Str × Int × Int) : Bool := decide (x.1 = f ∧ x.2.1 = i)
theorem has_idx : ∀ (L : Asks) (f : Str) (i : Int), match L.findIdx? (isK f i) with | some k => ∃ n, L[k]? = some (f, i, n) ∧ hasK L f i = n | none => hasK L f i = 0 ∧ ¬ ∃ x ∈ L, x.1 = f ∧ x.2.1 = i
  | [], f, i => by simp [hasK]
  | (g, j, n) :: L, f, i => by
    have ih := has_idx L f i
    rw [List.findIdx?_cons]
    by_cases e : g = f ∧ j = i
    · have h1 : isK f i (g, j, n) = true := by simp [isK, e]
      simp only [h1, if_true, hasK, if_pos e]
      exact ⟨n, by rw [e.1, e.2]; rfl, rfl⟩
    · have h1 : isK f i (g, j, n) = false := by simp only [isK]; exact decide_eq_false e
      simp only [h1, Bool.false_eq_true, if_false, hasK, if_neg e]
      cases hf : L.findIdx? (isK f i) with
      | none =>
        rw [hf] at ih
        simp only [Option.map_none]
        refine ⟨ih.1, ?_⟩
        rintro ⟨x, hx, h2⟩
        rcases List.mem_cons.1 hx with rfl | hx
        · exact e h2
        · exact ih.2 ⟨x, hx, h2⟩
      | some k =>
        rw [hf] at ih
        simpa using ih
theorem key_uniq {L : Asks} (h : (L.map fun x => (x.1, x.2.1)).Nodup) {k j : Nat} {x y : Str × Int × Int} (hk : L[k]? = some x) (hj : L[j]? = some y) (e1 : x.1 = y.1) (e2 : x.2.1 = y.2.1) : k = j := by
  obtain ⟨hk1, hk2⟩ := List.getElem?_eq_some_iff.1 hk
  obtain ⟨hj1, hj2⟩ := List.getElem?_eq_some_iff.1 hj
  have hp := List.pairwise_iff_getElem.1 (List.nodup_iff_pairwise_ne.1 h)
  rcases Nat.lt_trichotomy k j with h1 | h1 | h1
  · have := hp k j (by simpa using hk1) (by simpa using hj1) h1
    simp only [List.getElem_map, hk2, hj2] at this
    exact absurd (by rw [e1, e2]) this
  · exact h1
  · have := hp j k (by simpa using hj1) (by simpa using hk1) h1
    simp only [List.getElem_map, hk2, hj2] at this
    exact absurd (by rw [e1, e2]) this
theorem map_at {L : Asks} (h : (L.map fun x => (x.1, x.2.1)).Nodup) {k : Nat} {f : Str} {i n : Int} (hk : L[k]? = some (f, i, n)) (c : Int → Int) :
    (L.map fun x => if x.1 = f ∧ x.2.1 = i then (f, i, c x.2.2) else x) = L.set k (f, i, c n) := by
  apply List.ext_getElem?
  intro j
  rw [List.getElem?_map, List.getElem?_set]
  by_cases e : k = j
  · subst e
    have hlt := (List.getElem?_eq_some_iff.1 hk).1
    rw [hk]
    simp [hlt]
  · rw [if_neg e]
    cases hj : L[j]? with
    | none => rfl
    | some y =>
      simp only [Option.map_some, Option.some.injEq]
      rw [if_neg]
      rintro ⟨h1, h2⟩
      exact e (key_uniq h hk hj h1.symm h2.symm)
theorem filter_at {L : Asks} (h : (L.map fun x => (x.1, x.2.1)).Nodup) {k : Nat} {f : Str} {i n : Int} (hk : L[k]? = some (f, i, n)) :
    (L.filter fun x => !decide (x.1 = f ∧ x.2.1 = i)) = L.take k ++ L.drop (k + 1) := by
  obtain ⟨hlt, -⟩ := List.getElem?_eq_some_iff.1 hk
  have hs : L = L.take k ++ ((f, i, n) :: L.drop (k + 1)) := by
    rw [← (List.getElem?_eq_some_iff.1 hk).2, ← List.drop_eq_getElem_cons hlt, List.take_append_drop]
  have ho : ∀ j y, L[j]? = some y → j ≠ k → (!decide (y.1 = f ∧ y.2.1 = i)) = true := fun j y hj hne => by
    simp only [Bool.not_eq_true', decide_eq_false_iff_not]
    rintro ⟨h1, h2⟩
    exact hne (key_uniq h hj hk h1 h2)
  have h1 : (L.take k).filter (fun x => !decide (x.1 = f ∧ x.2.1 = i)) = L.take k := List.filter_eq_self.2 fun y hy => by
    obtain ⟨j, hj, rfl⟩ := List.getElem_of_mem hy
    rw [List.length_take] at hj
    exact ho j _ (by rw [List.getElem_take]; simp [show j < L.length by omega]) (by omega)
  have h2 : (L.drop (k + 1)).filter (fun x => !decide (x.1 = f ∧ x.2.1 = i)) = L.drop (k + 1) := List.filter_eq_self.2 fun y hy => by
    obtain ⟨j, hj, rfl⟩ := List.getElem_of_mem hy
    rw [List.length_drop] at hj
    exact ho (k + 1 + j) _ (by rw [List.getElem_drop]; simp [show k + 1 + j < L.length by omega]) (by omega)
  have h3 : (!decide ((f, i, n).1 = f ∧ (f, i, n).2.1 = i)) = false := by simp
  rw [hs, List.filter_append, List.filter_cons, h3, h1, h2]
  simp only [Bool.false_eq_true, if_false]
  rw [← hs]
end Go.Proofs.YtipljeomgdomnaaGreatDoor
/- T12 -/
/-
  What follows of asks: who leaves, whose asks there are.
-/
namespace Go.Proofs.YtipljeomgdomnaaGreatDoor
open Go

theorem mem_leave {L : Asks} {i : Int} {x : Str × Int × Int} : x ∈ leaveK L i ↔ x ∈ L ∧ x.2.1 ≠ i := by simp [leaveK]
theorem ids_leave (L : Asks) (i : Int) (s : Str) : idsK (leaveK L i) s = (idsK L s).filter fun x => !decide (x = i) := by
  refine rising_ext (idsK_rising _ _) (List.Pairwise.sublist List.filter_sublist (idsK_rising _ _)) fun x => ?_
  rw [List.mem_filter, mem_idsK, mem_idsK]
  unfold asksFor
  constructor
  · rintro ⟨y, hy, rfl, hm⟩
    obtain ⟨h1, h2⟩ := mem_leave.1 hy
    exact ⟨⟨y, h1, rfl, hm⟩, by simpa using h2⟩
  · rintro ⟨⟨y, h1, rfl, hm⟩, h2⟩
    exact ⟨y, mem_leave.2 ⟨h1, by simpa using h2⟩, rfl, hm⟩
theorem of_leave (L : Asks) (i : Int) : ofK (leaveK L i) i = [] := by
  rw [List.eq_nil_iff_forall_not_mem]
  intro f hf
  obtain ⟨n, hm⟩ := mem_ofK.1 hf
  exact (mem_leave.1 hm).2 rfl
theorem all_leave (L : Asks) (i : Int) : (allK (leaveK L i)).length ≤ (allK L).length :=
  (allK_sorted _).nodup.length_le_of_subset fun f hf => by
    obtain ⟨j, n, hm⟩ := mem_allK.1 hf
    exact mem_allK.2 ⟨j, n, (mem_leave.1 hm).1⟩
/-- each ask is one's of the calls -/
def IdsIn (L : Asks) (ids : List Int) : Prop := ∀ x ∈ L, x.2.1 ∈ ids
theorem IdsIn.nil : IdsIn [] [] := by simp [IdsIn]
theorem IdsIn.mono {L : Asks} {a b : List Int} (h : IdsIn L a) (hs : ∀ i ∈ a, i ∈ b) : IdsIn L b := fun x hx => hs _ (h x hx)
theorem IdsIn.addK {L : Asks} {ids : List Int} (h : IdsIn L ids) (f : Str) (i : Int) : IdsIn (addK L f i) (ids ++ [i]) := by
  intro x hx
  unfold Go.Proofs.YtipljeomgdomnaaGreatDoor.addK at hx
  split at hx
  · rcases List.mem_append.1 hx with hx | hx
    · exact List.mem_append.2 (.inl (h x hx))
    · simp at hx; subst hx; simp
  · obtain ⟨y, hy, rfl⟩ := List.mem_map.1 hx
    split
    · simp
    · exact List.mem_append.2 (.inl (h y hy))
theorem IdsIn.addR {L : Asks} {ids : List Int} (h : IdsIn L ids) (f : Str) (i : Int) : IdsIn (addR L f i) (ids ++ [i]) := by
  unfold Go.Proofs.YtipljeomgdomnaaGreatDoor.addR
  split
  · exact h.addK f i
  · exact h.mono fun i hi => List.mem_append.2 (.inl hi)
theorem IdsIn.lessK {L : Asks} {ids : List Int} (h : IdsIn L ids) (f : Str) (i : Int) : IdsIn (lessK L f i) ids := by
  intro x hx
  unfold Go.Proofs.YtipljeomgdomnaaGreatDoor.lessK at hx
  split at hx
  · exact h x (List.mem_filter.1 hx).1
  · obtain ⟨y, hy, rfl⟩ := List.mem_map.1 hx
    split
    · rename_i e; rw [← e.2]; exact h y hy
    · exact h y hy
theorem IdsIn.dropR {L : Asks} {ids : List Int} (h : IdsIn L ids) (f : Str) (i : Int) : IdsIn (dropR L f i) ids := by
  unfold Go.Proofs.YtipljeomgdomnaaGreatDoor.dropR
  split
  · exact h.lessK f i
  · exact h
theorem has_in {L : Asks} (hok : AsksOk L) {f : Str} (h : f ∈ allK L) : ∃ i, (∀ ids, IdsIn L ids → i ∈ ids) ∧ 0 < hasK L f i := by
  obtain ⟨i, n, hm⟩ := mem_allK.1 h
  have h2 := hok.pos _ hm
  have h3 := has_mem hok hm
  simp only at h2
  exact ⟨i, fun ids hi => hi _ hm, by omega⟩
/-- no asks at all -/
theorem none_of_has {L : Asks} (hok : AsksOk L) (h : ∀ f i, hasK L f i = 0) : L = [] := by
  cases L with
  | nil => rfl
  | cons x L =>
    obtain ⟨f, i, n⟩ := x
    have h1 := h f i
    have h2 := hok.pos _ (List.mem_cons_self (a := (f, i, n)) (l := L))
    simp only [hasK, and_self, if_true] at h1
    simp only at h2
    omega
theorem same_all {L M : Asks} (h : ∀ f i, hasK L f i = hasK M f i) (hL : AsksOk L) (hM : AsksOk M) : allK L = allK M ∧ ∀ s, idsK L s = idsK M s := by
  have key : ∀ (A B : Asks), AsksOk A → (∀ f i, hasK A f i = hasK B f i) → ∀ f i n, (f, i, n) ∈ A → (f, i, n) ∈ B := fun A B hA hh f i n hm => by
    have h1 := has_mem hA hm
    have h2 := hA.pos _ hm
    simp only at h2
    rw [hh] at h1
    have := has_ne (L := B) (f := f) (i := i) (by omega)
    rwa [h1] at this
  refine ⟨sortedS_ext (allK_sorted L) (allK_sorted M) fun f => ?_, fun s => rising_ext (idsK_rising L s) (idsK_rising M s) fun i => ?_⟩
  · rw [mem_allK, mem_allK]
    exact ⟨fun ⟨i, n, hm⟩ => ⟨i, n, key L M hL h f i n hm⟩, fun ⟨i, n, hm⟩ => ⟨i, n, key M L hM (fun f i => (h f i).symm) f i n hm⟩⟩
  · rw [mem_idsK, mem_idsK]
    unfold asksFor
    exact ⟨fun ⟨x, hx, e1, e2⟩ => ⟨x, key L M hL h x.1 x.2.1 x.2.2 hx, e1, e2⟩, fun ⟨x, hx, e1, e2⟩ => ⟨x, key M L hM (fun f i => (h f i).symm) x.1 x.2.1 x.2.2 hx, e1, e2⟩⟩
/-- how often calls ask -/
def cntO (l : List (Int × Str × Int × Str)) (f : Str) (i : Int) : Nat := (l.filter fun x => okA x.2.1 x.2.2.1 && decide (x.2.1 = f ∧ x.2.2.1 = i)).length
theorem cntO_app (l m : List (Int × Str × Int × Str)) (f : Str) (i : Int) : cntO (l ++ m) f i = cntO l f i + cntO m f i := by simp [cntO]
theorem cntO_one (x : Int × Str × Int × Str) (f : Str) (i : Int) : cntO [x] f i = if okA x.2.1 x.2.2.1 = true ∧ x.2.1 = f ∧ x.2.2.1 = i then 1 else 0 := by
  unfold cntO
  by_cases h : okA x.2.1 x.2.2.1 = true ∧ x.2.1 = f ∧ x.2.2.1 = i
  · rw [if_pos h, List.filter_cons_of_pos (by simp only [Bool.and_eq_true, decide_eq_true_eq]; exact h)]; rfl
  · rw [if_neg h, List.filter_cons_of_neg (by
      intro e
      simp only [Bool.and_eq_true, decide_eq_true_eq] at e
      exact h ⟨e.1, e.2.1, e.2.2⟩)]
    rfl
theorem cntO_perm {l m : List (Int × Str × Int × Str)} (h : l.Perm m) (f : Str) (i : Int) : cntO l f i = cntO m f i := (h.filter _).length_eq
theorem has_addR {L : Asks} (hok : AsksOk L) (x : Int × Str × Int × Str) (f : Str) (i : Int) : hasK (addR L x.2.1 x.2.2.1) f i = hasK L f i + (cntO [x] f i : Int) := by
  rw [cntO_one]
  unfold addR
  by_cases h : okA x.2.1 x.2.2.1 = true
  · rw [if_pos h, has_add hok]
    by_cases e : f = x.2.1 ∧ i = x.2.2.1
    · rw [if_pos e, if_pos ⟨h, e.1.symm, e.2.symm⟩, e.1, e.2]; rfl
    · rw [if_neg e, if_neg (fun h2 => e ⟨h2.2.1.symm, h2.2.2.symm⟩)]; simp
  · rw [if_neg h, if_neg (fun h2 => h h2.1)]; simp
theorem has_dropR {L : Asks} (hok : AsksOk L) (x : Int × Str × Int × Str) (hx : okA x.2.1 x.2.2.1 = true) (h0 : hasK L x.2.1 x.2.2.1 ≠ 0) (f : Str) (i : Int) : hasK (dropR L x.2.1 x.2.2.1) f i = hasK L f i - (cntO [x] f i : Int) := by
  rw [cntO_one]
  unfold dropR
  have hp := has_nonneg hok x.2.1 x.2.2.1
  rw [if_pos ⟨hx, h0⟩, has_less hok _ _ (by omega)]
  by_cases e : f = x.2.1 ∧ i = x.2.2.1
  · rw [if_pos e, if_pos ⟨hx, e.1.symm, e.2.symm⟩, e.1, e.2]; rfl
  · rw [if_neg e, if_neg (fun h2 => e ⟨h2.2.1.symm, h2.2.2.symm⟩)]; simp
end Go.Proofs.YtipljeomgdomnaaGreatDoor
/- Ta0 -/
/-
  The table: asks that stand once; what the sides want; the document's answer.
-/
namespace Go.Proofs.YtipljeomgdomnaaGreatDoor
open Go

def setR (L : Asks) (f : Str) (i : Int) (on : Bool) : Asks := if on = true then (if 0 < hasK L f i then L else addR L f i) else dropR L f i
def setE (L : Asks) (f : Str) (i : Int) (on : Bool) : Int := if on = true then (if 0 < hasK L f i then 9 else addE f i) else dropE L f i
def Ones (L : Asks) : Prop := ∀ x ∈ L, x.2.2 = 1
theorem Ones.nil : Ones [] := by simp [Ones]
theorem Ones.filter {L : Asks} (h : Ones L) (p : Str × Int × Int → Bool) : Ones (L.filter p) := fun x hx => h x (List.mem_filter.1 hx).1
theorem Ones.has {L : Asks} (h : Ones L) (f : Str) (i : Int) : hasK L f i = 0 ∨ hasK L f i = 1 := by
  by_cases e : hasK L f i = 0
  · exact .inl e
  · exact .inr (h _ (has_ne e))
theorem filter_no {L : Asks} {f : Str} {i : Int} (h : ¬ ∃ x ∈ L, x.1 = f ∧ x.2.1 = i) : (L.filter fun x => !isK f i x) = L :=
  List.filter_eq_self.2 fun x hx => by
    have : ¬ (x.1 = f ∧ x.2.1 = i) := fun e => h ⟨x, hx, e⟩
    simp only [isK, Bool.not_eq_true', decide_eq_false_iff_not]; exact this
/-- a call of a side, in plain words -/
theorem setR_plain {L : Asks} (hok : AsksOk L) (h1 : Ones L) (f : Str) (i : Int) (on : Bool) :
    setR L f i on = if okA f i = true then (if on = true then (if hasK L f i ≠ 0 then L else (L.filter fun x => !isK f i x) ++ [(f, i, 1)]) else L.filter fun x => !isK f i x) else L := by
  unfold setR
  have hh := h1.has f i
  by_cases hk : okA f i = true
  · rw [if_pos hk]
    cases on
    · simp only [Bool.false_eq_true, if_false]
      unfold dropR
      rcases hh with e | e
      · rw [if_neg (by simp [e]), filter_no (has_zero hok e)]
      · rw [if_pos ⟨hk, by omega⟩, lessK, if_pos e]; rfl
    · simp only [if_true]
      unfold addR
      rcases hh with e | e
      · rw [if_neg (by omega), if_pos hk, addK, if_pos e, if_neg (by simp [e]), filter_no (has_zero hok e)]
      · rw [if_pos (by omega), if_pos (by omega)]
  · rw [if_neg hk]
    have hz : hasK L f i = 0 := by
      by_cases e : hasK L f i = 0
      · exact e
      · exfalso; apply hk
        have := hok.filt _ (has_ne e)
        simp only [okA, Bool.and_eq_true, decide_eq_true_eq]; exact ⟨this.1, this.2⟩
    cases on
    · simp only [Bool.false_eq_true, if_false, dropR]; rw [if_neg (fun h => hk h.1)]
    · simp only [if_true, addR]; rw [if_neg (by omega), if_neg hk]
theorem setE_plain {L : Asks} (hok : AsksOk L) (f : Str) (i : Int) (on : Bool) :
    setE L f i on = if okA f i = true then (if on = true then (if hasK L f i ≠ 0 then 9 else 0) else (if hasK L f i ≠ 0 then 0 else 8)) else 1 := by
  unfold setE
  have hn := has_nonneg hok f i
  by_cases hk : okA f i = true
  · rw [if_pos hk]
    cases on
    · simp only [Bool.false_eq_true, if_false, dropE, if_pos hk]
    · simp only [if_true, addE, if_pos hk]
      by_cases e : hasK L f i = 0
      · rw [if_neg (by omega), if_neg (by simp [e])]
      · rw [if_pos (by omega), if_pos e]
  · rw [if_neg hk]
    have hz : hasK L f i = 0 := by
      by_cases e : hasK L f i = 0
      · exact e
      · exfalso; apply hk
        have := hok.filt _ (has_ne e)
        simp only [okA, Bool.and_eq_true, decide_eq_true_eq]; exact ⟨this.1, this.2⟩
    cases on
    · simp only [Bool.false_eq_true, if_false, dropE, if_neg hk]
    · simp only [if_true, addE, if_neg hk]; rw [if_neg (by omega)]
theorem Ones.set {L : Asks} (h : Ones L) (hok : AsksOk L) (f : Str) (i : Int) (on : Bool) : Ones (setR L f i on) := by
  rw [setR_plain hok h]
  repeat' split
  all_goals first | exact h | exact h.filter _ | skip
  intro x hx
  rcases List.mem_append.1 hx with hx | hx
  · exact h.filter _ x hx
  · simp at hx; subst hx; rfl
theorem AsksOk.set {L : Asks} (hok : AsksOk L) (f : Str) (i : Int) (on : Bool) : AsksOk (setR L f i on) := by
  unfold setR
  split
  · split
    · exact hok
    · exact hok.addR f i
  · exact hok.dropR f i
theorem AskB.set {L : Asks} {m : Nat} (h : AskB L m) (f : Str) (i : Int) (on : Bool) : AskB (setR L f i on) (m + 1) := by
  unfold setR
  split
  · split
    · exact h.mono (Nat.le_succ m)
    · exact h.addR f i
  · exact (h.dropR f i).mono (Nat.le_succ m)
theorem Ones.leave {L : Asks} (h : Ones L) (i : Int) : Ones (leaveK L i) := h.filter _
/-- all that is right of some asks -/
structure Fine (L : Asks) (m : Nat) : Prop where
  ok : AsksOk L
  one : Ones L
  b : AskB L m
theorem Fine.nil (m : Nat) : Fine [] m := ⟨AsksOk.nil, Ones.nil, AskB.nil m⟩
theorem Fine.mono {L : Asks} {m n : Nat} (h : Fine L m) (hn : m ≤ n) : Fine L n := ⟨h.ok, h.one, h.b.mono hn⟩
theorem Fine.set {L : Asks} {m : Nat} (h : Fine L m) (f : Str) (i : Int) (on : Bool) : Fine (setR L f i on) (m + 1) := ⟨h.ok.set f i on, h.one.set h.ok f i on, h.b.set f i on⟩
theorem Fine.leave {L : Asks} {m : Nat} (h : Fine L m) (i : Int) : Fine (leaveK L i) (m + 1) := ⟨h.ok.leave i, h.one.leave i, (h.b.leave i).mono (Nat.le_succ m)⟩
theorem allK_le {L : Asks} {m : Nat} (h : AskB L m) : (allK L).length ≤ m := by
  have := foldl_len (L.map (·.1)) []
  have h2 := h.len
  unfold allK
  simp at this ⊢; omega
theorem allK_filt {L : Asks} (h : AsksOk L) : ∀ f ∈ allK L, filtS f = true := fun f hf => by
  obtain ⟨i, n, hm⟩ := mem_allK.1 hf
  exact (h.filt _ hm).1
/-- what is wanted of a parent -/
def upS (A B : Asks) : List Str := leastS (allK A ++ allK B)
theorem up_least (A B : Asks) : leastS (A.map (·.1) ++ B.map (·.1)) = upS A B := least_ext fun y _ => by
  simp only [List.mem_append, mem_allK, List.mem_map]
  constructor
  · rintro (⟨x, h, rfl⟩ | ⟨x, h, rfl⟩)
    · exact .inl ⟨_, _, h⟩
    · exact .inr ⟨_, _, h⟩
  · rintro (⟨i, n, h⟩ | ⟨i, n, h⟩)
    · exact .inl ⟨_, h, rfl⟩
    · exact .inr ⟨_, h, rfl⟩
theorem up_le {A B : Asks} {m n : Nat} (hA : AskB A m) (hB : AskB B n) : (upS A B).length ≤ m + n := by
  have := least_len (allK A ++ allK B)
  have h1 := allK_le hA
  have h2 := allK_le hB
  unfold upS
  simp at this; omega
theorem up_filt (A B : Asks) : ∀ f ∈ upS A B, filtS f = true := fun f hf => (top_sub hf).2
theorem up_mem {A B : Asks} {f : Str} (h : f ∈ upS A B) : f ∈ allK A ∨ f ∈ allK B := List.mem_append.1 (top_sub h).1
/-- the document's asks, one behind the other, in a fresh trie -/
theorem who_step {L : Asks} (hok : AsksOk L) (h1 : Ones L) {k : Nat} {x : Str × Int × Int} (hx : L[k]? = some x) : addR (L.take k) x.1 x.2.1 = L.take (k + 1) := by
  have hm := List.mem_of_getElem? hx
  have hf := hok.filt _ hm
  have hz : hasK (L.take k) x.1 x.2.1 = 0 := has_none fun ⟨y, hy, e1, e2⟩ => by
    obtain ⟨j, hj⟩ := List.getElem?_of_mem hy
    have hjk : j < k := by
      have := (List.getElem?_eq_some_iff.1 hj).1
      rw [List.length_take] at this; omega
    rw [List.getElem?_take_of_lt hjk] at hj
    have := key_uniq hok.keys hx hj e1.symm e2.symm
    omega
  rw [addR, if_pos (by simp only [okA, Bool.and_eq_true, decide_eq_true_eq]; exact ⟨hf.1, hf.2⟩), addK, if_pos hz, List.take_add_one, hx, ← h1 x hm]; rfl
theorem AsksOk.take {L : Asks} (h : AsksOk L) (k : Nat) : AsksOk (L.take k) :=
  ⟨List.Sublist.nodup ((List.take_sublist k L).map _) h.keys, fun x hx => h.pos x (List.mem_of_mem_take hx), fun x hx => h.filt x (List.mem_of_mem_take hx)⟩
theorem AskB.take {L : Asks} {m : Nat} (h : AskB L m) (k : Nat) : AskB (L.take k) m := ⟨Nat.le_trans (by rw [List.length_take]; omega) h.len, fun x hx => h.cnt x (List.mem_of_mem_take hx)⟩
theorem wanted_any (L : Asks) (s : Str) : decide (0 < (idsK L s).length) = letsS (allK L) s := by
  rw [Bool.eq_iff_iff, decide_eq_true_eq, letsS, List.any_eq_true]
  constructor
  · intro h
    obtain ⟨i, hi⟩ := List.exists_mem_of_length_pos h
    obtain ⟨x, hx, rfl, hm⟩ := mem_idsK.1 hi
    exact ⟨x.1, mem_allK.2 ⟨_, _, hx⟩, hm⟩
  · rintro ⟨f, hf, hm⟩
    obtain ⟨i, n, hx⟩ := mem_allK.1 hf
    exact List.length_pos_of_mem (mem_idsK.2 ⟨_, hx, rfl, hm⟩)
theorem lets_app (a b : List Str) (s : Str) : letsS (a ++ b) s = (letsS a s || letsS b s) := List.any_append
theorem up_lets (A B : Asks) (s : Str) : letsS (upS A B) s = (decide (0 < (idsK A s).length) || decide (0 < (idsK B s).length)) := by
  rw [upS, ← lets_least, lets_app, wanted_any, wanted_any]
end Go.Proofs.YtipljeomgdomnaaGreatDoor
/- P1 -/
namespace Go.Proofs.YtipljeomgdomnaaGreatDoor
open Go

/-- the table at block tb: what devices ask for, and children -/
def IsTb (tb : Nat) (A B : Asks) (c : List Blk) : Prop := ∃ ta tw ca cw, IsTr ta A ca ∧ IsTr tw B cw ∧ c = (tb, cel [.pointer (some ⟨ta, 0, none⟩), .pointer (some ⟨tw, 0, none⟩)] 59) :: (ca ++ cw)
theorem tnew_spec : FN Tryz.prog 10 [] [] (fun v h => ∃ tb c, v = .pointer (some ⟨tb, 0, none⟩) ∧ IsTb tb [] [] c ∧ h = [c]) := by
  refine FN.intro 7 [] Tryz.func10 rfl (enters Tryz.func10 (by kernel_rfl) rfl) Tryz.ntmps10 rfl rfl ?_
  refine WP.seq <| WP.region <| v0 (S0.assign rfl) rfl <| vE <| WP.seq <| WP.region <| ?_  -- op t1 := call F28{rivulet/trie.New}()
  refine vc (S1.callF rfl (new_spec) take0) rfl ?_
  rintro _ _ ⟨ta, ca, rfl, hA, rfl⟩
  refine app ?_
  refine v0 (S0.build rfl (qs := [(0, _)]) rfl) rfl <| ?_  -- op t3 := call F28{rivulet/trie.New}()
  refine vc (S1.callF rfl (new_spec) take0) rfl ?_
  rintro _ _ ⟨tw, cw, rfl, hB, rfl⟩
  refine app ?_
  refine v0 (S0.build rfl (qs := [(0, _)]) rfl) rfl <| v0 (S0.build rfl (qs := [(0, _), (1, _)]) rfl) rfl <| vn (S1.box rfl rfl) rfl fun b6 => v0 (S0.assign rfl) rfl <| vE <| WP.ret <| ?_  -- ret
  refine Leaves.drop (h' := [(b6, cel [.pointer (some ⟨ta, 0, none⟩), .pointer (some ⟨tw, 0, none⟩)] 59) :: (ca ++ cw)]) (k := []) (pm fun a_ => by (try simp only [List.flatten_append, List.flatten_cons, List.flatten_nil, List.append_nil, List.cons_append, List.nil_append, List.append_assoc, nOf_app, nOf_cons, nOf_nil, Nat.add_zero, Nat.zero_add, List.map_append, List.map_cons, List.map_nil, cel, sv]); omega) ?_
  refine r1 rfl rfl ?_
  exact ⟨b6, _, rfl, ⟨ta, tw, ca, cw, hA, hB, rfl⟩, rfl⟩
theorem setO_spec {ta : Nat} {L : Asks} {c : List Blk} {m : Nat} (h : IsTr ta L c) (hb : AskB L m) (hm : m ≤ 1000000) {f : Str} (hf : f.length ≤ 1000) (i : Int) (on : Bool) :
    FN Tryz.prog 40 [.agg ⟨[.pointer (some ⟨ta, 0, none⟩)]⟩, .int .i64 i, sv f, .bool on] [c] (fun v h => ∃ c', v = .int .i64 (setE L f i on) ∧ IsTr ta (setR L f i on) c' ∧ h = [c']) := by
  refine FN.intro 45 [(0, .agg ⟨[.pointer (some ⟨ta, 0, none⟩)]⟩), (1, .int .i64 i), (2, sv f), (3, .bool on)] Tryz.func40 rfl (enters Tryz.func40 (by kernel_rfl) rfl) Tryz.ntmps40 rfl rfl ?_
  refine WP.seq <| WP.region <| vn (S1.box rfl rfl) rfl fun b4 => v0 (S0.assign rfl) rfl <| vE <| WP.seq <| WP.region <| v0 (S0.fieldAddr rfl) rfl <| v0 (S0.load rfl rfl) rfl <| v0 (S0.move rfl) rfl <| v0 (S0.move rfl) rfl <| ?_  -- op t18 := call F67{(*rivulet/trie.Trie).Has}(t15, t16, t17)
  refine vcd (S1.callF rfl (has_spec h hf i) (take1 (atS at0) take0)) rfl ?_
  refine v0 (S0.cmp rfl rfl rfl) rfl <| v0 (S0.assign rfl) rfl <| vE <| WP.seq <| WP.block <| WP.seq <| WP.region <| v0 (S0.move rfl) rfl <| v0 (S0.move rfl) rfl <| ?_  -- guard t22 (wants True) at t23 := move t9 [if #1=True]
  first | refine csP (t := 22) rfl (fun hon => ?_) (fun hon => ?_) | refine csN (t := 22) rfl (fun hon => ?_) (fun hon => ?_) | refine cs (t := 22) rfl (fun hon => ?_) (fun hon => ?_)
  · skip
    subst hon
    refine gT rfl <| v0 (S0.move rfl) rfl <| v0 (S0.pickT rfl rfl) rfl <| v0 (S0.assign rfl) rfl <| vE <| ?_  -- cond
    first | refine WP.condP rfl (fun h1 => ?_) (fun h1 => ?_) | refine WP.condN rfl (fun h1 => ?_) (fun h1 => ?_) | refine WP.cond rfl (fun h1 => ?_) (fun h1 => ?_)
    · skip
      have h2 : 0 < hasK L f i := by omega
      refine WP.seq <| WP.region <| v0 (S0.assign rfl) rfl <| vE <| WP.ret <| ?_  -- ret
      refine Leaves.drop (take1 at0 take0) ?_
      refine r1 rfl rfl ?_
      exact ⟨c, by rw [setE, if_pos rfl, if_pos h2], by rw [setR, if_pos rfl, if_pos h2]; exact h, rfl⟩
    · skip
      have h2 : ¬ 0 < hasK L f i := by omega
      refine WP.seq <| WP.region <| v0 (S0.move rfl) rfl <| v0 (S0.assign rfl) rfl <| vE <| ?_  -- cond
      refine WP.condTh rfl (rfl) ?_
      refine WP.seq <| WP.region <| v0 (S0.fieldAddr rfl) rfl <| v0 (S0.load rfl rfl) rfl <| v0 (S0.move rfl) rfl <| v0 (S0.move rfl) rfl <| ?_  -- op t32 := call F68{(*rivulet/trie.Trie).Add}(t29, t30, t31)
      refine vc (S1.callF rfl (add_spec h hb hm hf i) (take1 at0 take0)) rfl ?_
      rintro _ _ ⟨c', rfl, h3, rfl⟩
      refine app ?_
      refine v0 (S0.move rfl) rfl <| v0 (S0.extract rfl rfl) rfl <| v0 (S0.extract rfl rfl) rfl <| v0 (S0.assign rfl) rfl <| v0 (S0.assign rfl) rfl <| vE <| WP.seq <| WP.region <| v0 (S0.move rfl) rfl <| v0 (S0.assign rfl) rfl <| vE <| WP.ret <| ?_  -- ret
      refine Leaves.drop (take1 at0 take0) ?_
      refine r1 rfl rfl ?_
      exact ⟨c', by rw [setE, if_pos rfl, if_neg h2], by rw [setR, if_pos rfl, if_neg h2]; exact h3, rfl⟩
  · skip
    refine gF rfl rfl <| v0 (S0.pickF rfl rfl) rfl <| v0 (S0.assign rfl) rfl <| vE <| WP.condF rfl <| WP.seq <| WP.region <| v0 (S0.move rfl) rfl <| v0 (S0.assign rfl) rfl <| vE <| ?_  -- cond
    refine WP.condFh rfl (hon) ?_
    refine WP.skip <| WP.seq <| WP.region <| v0 (S0.fieldAddr rfl) rfl <| v0 (S0.load rfl rfl) rfl <| v0 (S0.move rfl) rfl <| v0 (S0.move rfl) rfl <| ?_  -- op t41 := call F69{(*rivulet/trie.Trie).Drop}(t38, t39, t40)
    refine vc (S1.callF rfl (drop_spec h hb hm hf i) (take1 at0 take0)) rfl ?_
    rintro _ _ ⟨c', rfl, h3, rfl⟩
    refine app ?_
    refine v0 (S0.move rfl) rfl <| v0 (S0.extract rfl rfl) rfl <| v0 (S0.extract rfl rfl) rfl <| v0 (S0.assign rfl) rfl <| v0 (S0.assign rfl) rfl <| vE <| WP.seq <| WP.region <| v0 (S0.move rfl) rfl <| v0 (S0.assign rfl) rfl <| vE <| WP.ret <| ?_  -- ret
    refine Leaves.drop (take1 at0 take0) ?_
    refine r1 rfl rfl ?_
    exact ⟨c', by rw [setE, if_neg (by simp [hon])], by rw [setR, if_neg (by simp [hon])]; exact h3, rfl⟩
theorem setW_spec {ta : Nat} {L : Asks} {c : List Blk} {m : Nat} (h : IsTr ta L c) (hb : AskB L m) (hm : m ≤ 1000000) {f : Str} (hf : f.length ≤ 1000) (i : Int) (on : Bool) :
    FN Tryz.prog 41 [.agg ⟨[.pointer (some ⟨ta, 0, none⟩)]⟩, .int .i64 i, sv f, .bool on] [c] (fun v h => ∃ c', v = .int .i64 (setE L f i on) ∧ IsTr ta (setR L f i on) c' ∧ h = [c']) := by
  refine FN.intro 45 [(0, .agg ⟨[.pointer (some ⟨ta, 0, none⟩)]⟩), (1, .int .i64 i), (2, sv f), (3, .bool on)] Tryz.func41 rfl (enters Tryz.func41 (by kernel_rfl) rfl) Tryz.ntmps41 rfl rfl ?_
  refine WP.seq <| WP.region <| vn (S1.box rfl rfl) rfl fun b4 => v0 (S0.assign rfl) rfl <| vE <| WP.seq <| WP.region <| v0 (S0.fieldAddr rfl) rfl <| v0 (S0.load rfl rfl) rfl <| v0 (S0.move rfl) rfl <| v0 (S0.move rfl) rfl <| ?_  -- op t18 := call F67{(*rivulet/trie.Trie).Has}(t15, t16, t17)
  refine vcd (S1.callF rfl (has_spec h hf i) (take1 (atS at0) take0)) rfl ?_
  refine v0 (S0.cmp rfl rfl rfl) rfl <| v0 (S0.assign rfl) rfl <| vE <| WP.seq <| WP.block <| WP.seq <| WP.region <| v0 (S0.move rfl) rfl <| v0 (S0.move rfl) rfl <| ?_  -- guard t22 (wants True) at t23 := move t9 [if #1=True]
  first | refine csP (t := 22) rfl (fun hon => ?_) (fun hon => ?_) | refine csN (t := 22) rfl (fun hon => ?_) (fun hon => ?_) | refine cs (t := 22) rfl (fun hon => ?_) (fun hon => ?_)
  · skip
    subst hon
    refine gT rfl <| v0 (S0.move rfl) rfl <| v0 (S0.pickT rfl rfl) rfl <| v0 (S0.assign rfl) rfl <| vE <| ?_  -- cond
    first | refine WP.condP rfl (fun h1 => ?_) (fun h1 => ?_) | refine WP.condN rfl (fun h1 => ?_) (fun h1 => ?_) | refine WP.cond rfl (fun h1 => ?_) (fun h1 => ?_)
    · skip
      have h2 : 0 < hasK L f i := by omega
      refine WP.seq <| WP.region <| v0 (S0.assign rfl) rfl <| vE <| WP.ret <| ?_  -- ret
      refine Leaves.drop (take1 at0 take0) ?_
      refine r1 rfl rfl ?_
      exact ⟨c, by rw [setE, if_pos rfl, if_pos h2], by rw [setR, if_pos rfl, if_pos h2]; exact h, rfl⟩
    · skip
      have h2 : ¬ 0 < hasK L f i := by omega
      refine WP.seq <| WP.region <| v0 (S0.move rfl) rfl <| v0 (S0.assign rfl) rfl <| vE <| ?_  -- cond
      refine WP.condTh rfl (rfl) ?_
      refine WP.seq <| WP.region <| v0 (S0.fieldAddr rfl) rfl <| v0 (S0.load rfl rfl) rfl <| v0 (S0.move rfl) rfl <| v0 (S0.move rfl) rfl <| ?_  -- op t32 := call F68{(*rivulet/trie.Trie).Add}(t29, t30, t31)
      refine vc (S1.callF rfl (add_spec h hb hm hf i) (take1 at0 take0)) rfl ?_
      rintro _ _ ⟨c', rfl, h3, rfl⟩
      refine app ?_
      refine v0 (S0.move rfl) rfl <| v0 (S0.extract rfl rfl) rfl <| v0 (S0.extract rfl rfl) rfl <| v0 (S0.assign rfl) rfl <| v0 (S0.assign rfl) rfl <| vE <| WP.seq <| WP.region <| v0 (S0.move rfl) rfl <| v0 (S0.assign rfl) rfl <| vE <| WP.ret <| ?_  -- ret
      refine Leaves.drop (take1 at0 take0) ?_
      refine r1 rfl rfl ?_
      exact ⟨c', by rw [setE, if_pos rfl, if_neg h2], by rw [setR, if_pos rfl, if_neg h2]; exact h3, rfl⟩
  · skip
    refine gF rfl rfl <| v0 (S0.pickF rfl rfl) rfl <| v0 (S0.assign rfl) rfl <| vE <| WP.condF rfl <| WP.seq <| WP.region <| v0 (S0.move rfl) rfl <| v0 (S0.assign rfl) rfl <| vE <| ?_  -- cond
    refine WP.condFh rfl (hon) ?_
    refine WP.skip <| WP.seq <| WP.region <| v0 (S0.fieldAddr rfl) rfl <| v0 (S0.load rfl rfl) rfl <| v0 (S0.move rfl) rfl <| v0 (S0.move rfl) rfl <| ?_  -- op t41 := call F69{(*rivulet/trie.Trie).Drop}(t38, t39, t40)
    refine vc (S1.callF rfl (drop_spec h hb hm hf i) (take1 at0 take0)) rfl ?_
    rintro _ _ ⟨c', rfl, h3, rfl⟩
    refine app ?_
    refine v0 (S0.move rfl) rfl <| v0 (S0.extract rfl rfl) rfl <| v0 (S0.extract rfl rfl) rfl <| v0 (S0.assign rfl) rfl <| v0 (S0.assign rfl) rfl <| vE <| WP.seq <| WP.region <| v0 (S0.move rfl) rfl <| v0 (S0.assign rfl) rfl <| vE <| WP.ret <| ?_  -- ret
    refine Leaves.drop (take1 at0 take0) ?_
    refine r1 rfl rfl ?_
    exact ⟨c', by rw [setE, if_neg (by simp [hon])], by rw [setR, if_neg (by simp [hon])]; exact h3, rfl⟩
/-- a field of the table, and what a call does with it -/
theorem own_spec {tb : Nat} {A B : Asks} {c : List Blk} {m : Nat} (h : IsTb tb A B c) (hb : AskB A m) (hm : m ≤ 1000000) {f : Str} (hf : f.length ≤ 1000) (i : Int) (on : Bool) :
    FN Tryz.prog 22 [.pointer (some ⟨tb, 0, none⟩), .int .i64 i, sv f, .bool on] [c] (fun v h => ∃ c', v = .int .i64 (setE A f i on) ∧ IsTb tb (setR A f i on) B c' ∧ h = [c']) := by
  obtain ⟨ta, tw, ca, cw, hA, hB, rfl⟩ := h
  refine FN.intro 17 [(0, .pointer (some ⟨tb, 0, none⟩)), (1, .int .i64 i), (2, sv f), (3, .bool on)] Tryz.func22 rfl (enters Tryz.func22 (by kernel_rfl) rfl) Tryz.ntmps22 rfl rfl ?_
  refine WP.perm (h' := [[(tb, cel [.pointer (some ⟨ta, 0, none⟩), .pointer (some ⟨tw, 0, none⟩)] 59)], ca, cw]) (k := []) (List.Perm.of_eq (by first | rfl | simp)) ?_
  refine WP.seq <| WP.region <| v0 (S0.assign rfl) rfl <| vE <| WP.seq <| WP.region <| v0 (S0.move rfl) rfl <| v0 (S0.nilCheck rfl) rfl <| v0 (S0.fieldAddr rfl) rfl <| v0 (S0.loadAL rfl) rfl <| v0 (S0.move rfl) rfl <| v0 (S0.move rfl) rfl <| v0 (S0.move rfl) rfl <| ?_  -- op t16 := call F40{(rivulet/table.side[rivulet/table.device]).set}(t12, t13, t14, t15)
  refine vc (S1.callF rfl (setO_spec hA hb hm hf i on) (take1 (atS at0) take0)) rfl ?_
  rintro _ _ ⟨c', rfl, h3, rfl⟩
  refine app ?_
  refine v0 (S0.assign rfl) rfl <| vE <| WP.ret <| ?_  -- ret
  refine Leaves.drop (h' := [(tb, cel [.pointer (some ⟨ta, 0, none⟩), .pointer (some ⟨tw, 0, none⟩)] 59) :: (c' ++ cw)]) (k := []) (pm fun a_ => by (try simp only [List.flatten_append, List.flatten_cons, List.flatten_nil, List.append_nil, List.cons_append, List.nil_append, List.append_assoc, nOf_app, nOf_cons, nOf_nil, Nat.add_zero, Nat.zero_add, List.map_append, List.map_cons, List.map_nil, cel, sv]); omega) ?_
  refine r1 rfl rfl ?_
  exact ⟨_, rfl, ⟨ta, tw, c', cw, h3, hB, rfl⟩, rfl⟩
theorem want_spec {tb : Nat} {A B : Asks} {c : List Blk} {m : Nat} (h : IsTb tb A B c) (hb : AskB B m) (hm : m ≤ 1000000) {f : Str} (hf : f.length ≤ 1000) (i : Int) (on : Bool) :
    FN Tryz.prog 23 [.pointer (some ⟨tb, 0, none⟩), .int .i64 i, sv f, .bool on] [c] (fun v h => ∃ c', v = .int .i64 (setE B f i on) ∧ IsTb tb A (setR B f i on) c' ∧ h = [c']) := by
  obtain ⟨ta, tw, ca, cw, hA, hB, rfl⟩ := h
  refine FN.intro 17 [(0, .pointer (some ⟨tb, 0, none⟩)), (1, .int .i64 i), (2, sv f), (3, .bool on)] Tryz.func23 rfl (enters Tryz.func23 (by kernel_rfl) rfl) Tryz.ntmps23 rfl rfl ?_
  refine WP.perm (h' := [[(tb, cel [.pointer (some ⟨ta, 0, none⟩), .pointer (some ⟨tw, 0, none⟩)] 59)], ca, cw]) (k := []) (List.Perm.of_eq (by first | rfl | simp)) ?_
  refine WP.seq <| WP.region <| v0 (S0.assign rfl) rfl <| vE <| WP.seq <| WP.region <| v0 (S0.move rfl) rfl <| v0 (S0.nilCheck rfl) rfl <| v0 (S0.fieldAddr rfl) rfl <| v0 (S0.loadAL rfl) rfl <| v0 (S0.move rfl) rfl <| v0 (S0.move rfl) rfl <| v0 (S0.move rfl) rfl <| ?_  -- op t16 := call F41{(rivulet/table.side[rivulet/table.child]).set}(t12, t13, t14, t15)
  refine vc (S1.callF rfl (setW_spec hB hb hm hf i on) (take1 (atS (atS at0)) take0)) rfl ?_
  rintro _ _ ⟨c', rfl, h3, rfl⟩
  refine app ?_
  refine v0 (S0.assign rfl) rfl <| vE <| WP.ret <| ?_  -- ret
  refine Leaves.drop (h' := [(tb, cel [.pointer (some ⟨ta, 0, none⟩), .pointer (some ⟨tw, 0, none⟩)] 59) :: (ca ++ c')]) (k := []) (pm fun a_ => by (try simp only [List.flatten_append, List.flatten_cons, List.flatten_nil, List.append_nil, List.cons_append, List.nil_append, List.append_assoc, nOf_app, nOf_cons, nOf_nil, Nat.add_zero, Nat.zero_add, List.map_append, List.map_cons, List.map_nil, cel, sv]); omega) ?_
  refine r1 rfl rfl ?_
  exact ⟨_, rfl, ⟨ta, tw, ca, c', hA, h3, rfl⟩, rfl⟩
theorem tleave_spec {tb : Nat} {A B : Asks} {c : List Blk} {m : Nat} (h : IsTb tb A B c) (hb : AskB B m) (hm : m ≤ 1000000) (i : Int) :
    FN Tryz.prog 24 [.pointer (some ⟨tb, 0, none⟩), .int .i64 i] [c] (fun v h => ∃ c', v = .int .i64 ((ofK B i).length : Int) ∧ IsTb tb A (leaveK B i) c' ∧ h = [c']) := by
  obtain ⟨ta, tw, ca, cw, hA, hB, rfl⟩ := h
  refine FN.intro 12 [(0, .pointer (some ⟨tb, 0, none⟩)), (1, .int .i64 i)] Tryz.func24 rfl (enters Tryz.func24 (by kernel_rfl) rfl) Tryz.ntmps24 rfl rfl ?_
  refine WP.perm (h' := [[(tb, cel [.pointer (some ⟨ta, 0, none⟩), .pointer (some ⟨tw, 0, none⟩)] 59)], ca, cw]) (k := []) (List.Perm.of_eq (by first | rfl | simp)) ?_
  refine WP.seq <| WP.region <| v0 (S0.assign rfl) rfl <| vE <| WP.seq <| WP.region <| v0 (S0.move rfl) rfl <| v0 (S0.nilCheck rfl) rfl <| v0 (S0.fieldAddr rfl) rfl <| v0 (S0.fieldAddr rfl) rfl <| v0 (S0.load rfl rfl) rfl <| v0 (S0.move rfl) rfl <| ?_  -- op t11 := call F42{(*rivulet/trie.Trie).Leave}(t9, t10)
  refine vc (S1.callF rfl (leave_spec hB hb hm i) (take1 (atS (atS at0)) take0)) rfl ?_
  rintro _ _ ⟨c', rfl, h3, rfl⟩
  refine app ?_
  refine v0 (S0.assign rfl) rfl <| vE <| WP.ret <| ?_  -- ret
  refine Leaves.drop (h' := [(tb, cel [.pointer (some ⟨ta, 0, none⟩), .pointer (some ⟨tw, 0, none⟩)] 59) :: (ca ++ c')]) (k := []) (pm fun a_ => by (try simp only [List.flatten_append, List.flatten_cons, List.flatten_nil, List.append_nil, List.cons_append, List.nil_append, List.append_assoc, nOf_app, nOf_cons, nOf_nil, Nat.add_zero, Nat.zero_add, List.map_append, List.map_cons, List.map_nil, cel, sv]); omega) ?_
  refine r1 rfl rfl ?_
  exact ⟨_, rfl, ⟨ta, tw, ca, c', hA, h3, rfl⟩, rfl⟩
theorem devices_spec {tb : Nat} {A B : Asks} {c : List Blk} {m : Nat} (h : IsTb tb A B c) (hb : AskB A m) (hm : m ≤ 1000000) {s : Str} (hs : s.length ≤ 1000) :
    FN Tryz.prog 18 [.pointer (some ⟨tb, 0, none⟩), sv s] [c] (fun v h => ∃ row, IsSl 3 1 v (ints (idsK A s)) row ∧ h = [row, c]) := by
  obtain ⟨ta, tw, ca, cw, hA, hB, rfl⟩ := h
  refine FN.intro 12 [(0, .pointer (some ⟨tb, 0, none⟩)), (1, sv s)] Tryz.func18 rfl (enters Tryz.func18 (by kernel_rfl) rfl) Tryz.ntmps18 rfl rfl ?_
  refine WP.perm (h' := [[(tb, cel [.pointer (some ⟨ta, 0, none⟩), .pointer (some ⟨tw, 0, none⟩)] 59)], ca, cw]) (k := []) (List.Perm.of_eq (by first | rfl | simp)) ?_
  refine WP.seq <| WP.region <| v0 (S0.assign rfl) rfl <| vE <| WP.seq <| WP.region <| v0 (S0.move rfl) rfl <| v0 (S0.nilCheck rfl) rfl <| v0 (S0.fieldAddr rfl) rfl <| v0 (S0.fieldAddr rfl) rfl <| v0 (S0.load rfl rfl) rfl <| v0 (S0.move rfl) rfl <| ?_  -- op t11 := call F37{(*rivulet/trie.Trie).Match}(t9, t10)
  refine vc (S1.callF rfl (match_spec0 hA hb hm hs) (take1 (atS at0) take0)) rfl ?_
  rintro v _ ⟨row, h3, rfl⟩
  refine app ?_
  refine v0 (S0.assign rfl) rfl <| vE <| WP.ret <| ?_  -- ret
  refine Leaves.drop (h' := [row, (tb, cel [.pointer (some ⟨ta, 0, none⟩), .pointer (some ⟨tw, 0, none⟩)] 59) :: (ca ++ cw)]) (k := []) (pm fun a_ => by (try simp only [List.flatten_append, List.flatten_cons, List.flatten_nil, List.append_nil, List.cons_append, List.nil_append, List.append_assoc, nOf_app, nOf_cons, nOf_nil, Nat.add_zero, Nat.zero_add, List.map_append, List.map_cons, List.map_nil, cel, sv]); omega) ?_
  refine r1 rfl rfl ?_
  exact ⟨row, h3, rfl⟩
theorem children_spec {tb : Nat} {A B : Asks} {c : List Blk} {m : Nat} (h : IsTb tb A B c) (hb : AskB B m) (hm : m ≤ 1000000) {s : Str} (hs : s.length ≤ 1000) :
    FN Tryz.prog 20 [.pointer (some ⟨tb, 0, none⟩), sv s] [c] (fun v h => ∃ row, IsSl 3 1 v (ints (idsK B s)) row ∧ h = [row, c]) := by
  obtain ⟨ta, tw, ca, cw, hA, hB, rfl⟩ := h
  refine FN.intro 12 [(0, .pointer (some ⟨tb, 0, none⟩)), (1, sv s)] Tryz.func20 rfl (enters Tryz.func20 (by kernel_rfl) rfl) Tryz.ntmps20 rfl rfl ?_
  refine WP.perm (h' := [[(tb, cel [.pointer (some ⟨ta, 0, none⟩), .pointer (some ⟨tw, 0, none⟩)] 59)], ca, cw]) (k := []) (List.Perm.of_eq (by first | rfl | simp)) ?_
  refine WP.seq <| WP.region <| v0 (S0.assign rfl) rfl <| vE <| WP.seq <| WP.region <| v0 (S0.move rfl) rfl <| v0 (S0.nilCheck rfl) rfl <| v0 (S0.fieldAddr rfl) rfl <| v0 (S0.fieldAddr rfl) rfl <| v0 (S0.load rfl rfl) rfl <| v0 (S0.move rfl) rfl <| ?_  -- op t11 := call F37{(*rivulet/trie.Trie).Match}(t9, t10)
  refine vc (S1.callF rfl (match_spec0 hB hb hm hs) (take1 (atS (atS at0)) take0)) rfl ?_
  rintro v _ ⟨row, h3, rfl⟩
  refine app ?_
  refine v0 (S0.assign rfl) rfl <| vE <| WP.ret <| ?_  -- ret
  refine Leaves.drop (h' := [row, (tb, cel [.pointer (some ⟨ta, 0, none⟩), .pointer (some ⟨tw, 0, none⟩)] 59) :: (ca ++ cw)]) (k := []) (pm fun a_ => by (try simp only [List.flatten_append, List.flatten_cons, List.flatten_nil, List.append_nil, List.cons_append, List.nil_append, List.append_assoc, nOf_app, nOf_cons, nOf_nil, Nat.add_zero, Nat.zero_add, List.map_append, List.map_cons, List.map_nil, cel, sv]); omega) ?_
  refine r1 rfl rfl ?_
  exact ⟨row, h3, rfl⟩
theorem wanted_spec {tb : Nat} {A B : Asks} {c : List Blk} {m : Nat} (h : IsTb tb A B c) (hb : AskB A m) (hb2 : AskB B m) (hm : m ≤ 1000000) {s : Str} (hs : s.length ≤ 1000) :
    FN Tryz.prog 25 [.pointer (some ⟨tb, 0, none⟩), sv s] [c] (is (.bool (decide (0 < (idsK A s).length) || decide (0 < (idsK B s).length))) [c]) := by
  refine FN.intro 17 [(0, .pointer (some ⟨tb, 0, none⟩)), (1, sv s)] Tryz.func25 rfl (enters Tryz.func25 (by kernel_rfl) rfl) Tryz.ntmps25 rfl rfl ?_
  refine WP.seq <| WP.region <| v0 (S0.assign rfl) rfl <| vE <| WP.seq <| WP.region <| v0 (S0.move rfl) rfl <| v0 (S0.move rfl) rfl <| ?_  -- op t7 := call F18{(*rivulet/table.Table).Devices}(t5, t6)
  refine vc (S1.callF rfl (devices_spec h hb hm hs) (take1 at0 take0)) rfl ?_
  rintro v _ ⟨row, h3, rfl⟩
  refine app ?_
  obtain ⟨a1, c1, rfl, -, -⟩ := h3.intsE
  refine v0 (S0.lenSl rfl) rfl <| v0 (S0.cmp rfl rfl rfl) rfl <| v0 (S0.move rfl) rfl <| ?_  -- guard t10 (wants False) at t11 := move t0 [if #5=False]
  first | refine csP (t := 10) rfl (fun h1 => ?_) (fun h1 => ?_) | refine csN (t := 10) rfl (fun h1 => ?_) (fun h1 => ?_) | refine cs (t := 10) rfl (fun h1 => ?_) (fun h1 => ?_)
  · skip
    have h2 : 0 < (idsK A s).length := by omega
    refine gF rfl rfl <| gF rfl rfl <| gF rfl rfl <| gF rfl rfl <| gF rfl rfl <| v0 (S0.pickT rfl rfl) rfl <| v0 (S0.assign rfl) rfl <| vE <| WP.ret <| ?_  -- ret
    refine Leaves.drop (take1 (atS at0) take0) ?_
    refine r1 rfl rfl ⟨?_, rfl⟩
    simp [h2]
  · skip
    have h2 : ¬ 0 < (idsK A s).length := by omega
    refine gT rfl <| v0 (S0.move rfl) rfl <| gT rfl <| v0 (S0.move rfl) rfl <| ?_  -- op t13 := call F20{(*rivulet/table.Table).Children}(t11, t12) [if #5=False]
    refine gT rfl <| vc (S1.callF rfl (children_spec h hb2 hm hs) (take1 (atS at0) take0)) rfl ?_
    rintro v2 _ ⟨row2, h4, rfl⟩
    refine app ?_
    obtain ⟨a2, c2, rfl, -, -⟩ := h4.intsE
    refine gT rfl <| v0 (S0.lenSl rfl) rfl <| gT rfl <| v0 (S0.cmp rfl rfl rfl) rfl <| v0 (S0.pickF rfl rfl) rfl <| v0 (S0.assign rfl) rfl <| vE <| WP.ret <| ?_  -- ret
    refine Leaves.drop (take1 (atS at0) take0) ?_
    refine r1 rfl rfl ⟨?_, rfl⟩
    simp [h2]
theorem up_spec {tb : Nat} {A B : Asks} {c : List Blk} {m : Nat} (h : IsTb tb A B c) (hA : Fine A m) (hB : Fine B m) (hm : m ≤ 500) :
    FN Tryz.prog 16 [.pointer (some ⟨tb, 0, none⟩)] [c] (fun v h => ∃ row, IsSl 9 1 v (strs (upS A B)) row ∧ h = [row, c]) := by
  have hla := allK_le hA.b
  have hlb := allK_le hB.b
  have hfa : ∀ f ∈ allK A, f.length ≤ 1000 := fun f hf => by have := filt_len (allK_filt hA.ok f hf); omega
  have hfb : ∀ f ∈ allK B, f.length ≤ 1000 := fun f hf => by have := filt_len (allK_filt hB.ok f hf); omega
  obtain ⟨ta, tw, ca, cw, hTA, hTB, rfl⟩ := h
  refine FN.intro 16 [(0, .pointer (some ⟨tb, 0, none⟩))] Tryz.func16 rfl (enters Tryz.func16 (by kernel_rfl) rfl) Tryz.ntmps16 rfl rfl ?_
  refine WP.perm (h' := [[(tb, cel [.pointer (some ⟨ta, 0, none⟩), .pointer (some ⟨tw, 0, none⟩)] 59)], ca, cw]) (k := []) (List.Perm.of_eq (by first | rfl | simp)) ?_
  skip
  refine WP.seq <| WP.region <| v0 (S0.assign rfl) rfl <| vE <| WP.seq <| WP.drawP [(0, none), (1, none), (2, none), (3, none), (4, none), (6, none), (7, none), (8, none), (9, none), (10, none), (5, none), (11, none), (12, none), (13, none)] mixed (by kernel_rfl) (by kernel_rfl) (by kernel_rfl) (take1 at0 take0) <| w0 rfl rfl rfl (S0.move rfl) rfl <| w0 rfl rfl rfl (S0.nilCheck rfl) rfl <| w0 rfl rfl rfl (S0.fieldAddr rfl) rfl <| w0 rfl rfl rfl (S0.fieldAddr rfl) rfl <| w0 rfl rfl rfl (S0.load rfl rfl) rfl <| w0 rfl rfl rfl (S0.move rfl) rfl <| w0 rfl rfl rfl (S0.nilCheck rfl) rfl <| w0 rfl rfl rfl (S0.fieldAddr rfl) rfl <| w0 rfl rfl rfl (S0.fieldAddr rfl) rfl <| w0 rfl rfl rfl (S0.load rfl rfl) rfl <| ?_  -- op t8 := call F36{(*rivulet/trie.Trie).All}(t7)
  refine wc rfl rfl rfl rfl (S1.callF rfl (all_spec hTA hA.b (by omega)) (take1 at0 take0)) rfl ?_
  rintro va _ ⟨ra, h3, rfl⟩
  refine wapp ?_
  refine wc rfl rfl rfl rfl (S1.callF rfl (all_spec hTB hB.b (by omega)) (take1 (atS (atS at0)) take0)) rfl ?_
  rintro vb _ ⟨rb, h4, rfl⟩
  refine wapp ?_
  refine wc rfl rfl rfl rfl (S1.callF rfl (join2_spec h3.rdS h4.rdS (by omega) (by omega) hfa hfb) (take1 (atS (atS at0)) (take1 at0 take0))) rfl ?_
  rintro v _ ⟨row, h5, rfl⟩
  refine wapp ?_
  refine w0 rfl rfl rfl (S0.assign rfl) rfl <| wE <| WP.ret <| ?_  -- ret
  refine Leaves.drop (h' := [row, (tb, cel [.pointer (some ⟨ta, 0, none⟩), .pointer (some ⟨tw, 0, none⟩)] 59) :: (ca ++ cw)]) (k := [ra, rb]) (pm fun a_ => by (try simp only [List.flatten_append, List.flatten_cons, List.flatten_nil, List.append_nil, List.cons_append, List.nil_append, List.append_assoc, nOf_app, nOf_cons, nOf_nil, Nat.add_zero, Nat.zero_add, List.map_append, List.map_cons, List.map_nil, cel, sv]); omega) ?_
  refine r1 rfl rfl ?_
  exact ⟨row, h5, rfl⟩
theorem tdiff_spec {tb : Nat} {A B : Asks} {c : List Blk} {m : Nat} (h : IsTb tb A B c) (hA : Fine A m) (hB : Fine B m) (hm : m ≤ 500) {v : Value} {l : List Str} {oc : List Blk} (ho : RdS v l oc) (hox : ∀ x ∈ l, x.length ≤ 1000) (hol : l.length ≤ 1000) :
    FN Tryz.prog 12 [.pointer (some ⟨tb, 0, none⟩), v] [c, oc] (fun u h => ∃ v1 v2 r1 r2, IsSl 9 1 v1 (strs (withoutS (cleanS (upS A B)) (cleanS l))) r1 ∧ IsSl 9 1 v2 (strs (withoutS (cleanS l) (cleanS (upS A B)))) r2 ∧ u = .tuple ⟨[v1, v2]⟩ ∧ h = [r1, r2, c, oc]) := by
  have hul := up_le hA.b hB.b
  have hux : ∀ f ∈ upS A B, f.length ≤ 1000 := fun f hf => by have := filt_len (up_filt A B f hf); omega
  refine FN.intro 12 [(0, .pointer (some ⟨tb, 0, none⟩)), (1, v)] Tryz.func12 rfl (enters Tryz.func12 (by kernel_rfl) rfl) Tryz.ntmps12 rfl rfl ?_
  refine WP.seq <| WP.region <| v0 (S0.assign rfl) rfl <| v0 (S0.assign rfl) rfl <| vE <| WP.seq <| WP.region <| v0 (S0.move rfl) rfl <| v0 (S0.move rfl) rfl <| ?_  -- op t8 := call F16{(*rivulet/table.Table).Up}(t7)
  refine vc (S1.callF rfl (up_spec h hA hB hm) (take1 at0 take0)) rfl ?_
  rintro uv _ ⟨ur, h3, rfl⟩
  refine app ?_
  -- (nothing to walk: op t9 := call F31{rivulet/cover.Diff}(t6, t8))
  refine vc (S1.callF rfl (diff_spec ho h3.rdS hox hol hux (by omega)) (take1 (atS (atS at0)) (take1 at0 take0))) rfl ?_
  rintro _ _ ⟨v1, v2, q1, q2, h4, h5, rfl, rfl⟩
  refine app ?_
  refine v0 (S0.extract rfl rfl) rfl <| v0 (S0.extract rfl rfl) rfl <| v0 (S0.assign rfl) rfl <| v0 (S0.assign rfl) rfl <| vE <| WP.ret <| ?_  -- ret
  refine Leaves.drop (take1 at0 (take1 at0 (take1 (atS (atS at0)) (take1 at0 take0)))) ?_
  refine r2 rfl rfl rfl ?_
  exact ⟨v1, v2, q1, q2, h4, h5, rfl, rfl⟩
end Go.Proofs.YtipljeomgdomnaaGreatDoor
/- RefL -/
namespace Go.Proofs.YtipljeomgdomnaaGreatDoor
open Go

theorem ltS_cons (a b : UInt8) (x y : Str) (h : a ≠ b) : ltS (a :: x) (b :: y) = decide ((a.toNat : Int) < (b.toNat : Int)) := by
  simp only [ltS, h, decide_false, Bool.false_and, Bool.or_false]
  rw [decide_eq_decide, UInt8.lt_iff_toNat_lt]
  omega
theorem rless1_spec {a b : Str} (ha : a.length ≤ 1000000) (hb : b.length ≤ 1000000) : FN Tryz.prog 81 [sv a, sv b] [] (is (.bool (ltS a b)) []) := by
  refine FN.intro 37 [(0, sv a), (1, sv b)] Tryz.func81 rfl (enters Tryz.func81 (by kernel_rfl) rfl) Tryz.ntmps81 rfl rfl ?_
  refine WP.seq <| WP.region <| v0 (S0.assign rfl) rfl <| vE <| WP.seq <| WP.seq <| WP.region <| v0 (S0.assign rfl) rfl <| vE <| WP.block <| ?_  -- Code.loop
  refine WP.loop (fun i : Nat => i ≤ a.length ∧ i ≤ b.length ∧ ltS a b = ltS (a.drop i) (b.drop i)) (fun i : Nat => [(0, sv a), (1, sv b), (5, .int .i64 (i : Int))]) (fun i : Nat => []) (fun i : Nat => a.length - i) (0) (⟨Nat.zero_le _, Nat.zero_le _, by simp⟩) ⟨rfl, rfl, rfl, trivial⟩ ⟨_, take0⟩ (fun i hinv => ?_) 
  obtain ⟨hi, hi2, hinv⟩ := hinv
  refine WP.seq <| WP.seq <| WP.region <| v0 (S0.move rfl) rfl <| v0 (S0.move rfl) rfl <| v0 (S0.lenSt rfl) rfl <| v0 (S0.cmp rfl rfl rfl) rfl <| v0 (S0.move rfl) rfl <| ?_  -- guard t10 (wants True) at t11 := move t5 [if #4=True]
  first | refine csP (t := 10) rfl (fun h1 => ?_) (fun h1 => ?_) | refine csN (t := 10) rfl (fun h1 => ?_) (fun h1 => ?_) | refine cs (t := 10) rfl (fun h1 => ?_) (fun h1 => ?_)
  · skip
    have hlt : i < a.length := by omega
    have hx : a[i]? = some a[i] := by simp [hlt]
    generalize a[i] = x at hx
    rw [drop_cons hx] at hinv
    refine gT rfl <| v0 (S0.move rfl) rfl <| gT rfl <| v0 (S0.move rfl) rfl <| gT rfl <| v0 (S0.lenSt rfl) rfl <| gT rfl <| v0 (S0.cmp rfl rfl rfl) rfl <| v0 (S0.pickT rfl rfl) rfl <| vE <| ?_  -- cond
    first | refine WP.condP rfl (fun h2 => ?_) (fun h2 => ?_) | refine WP.condN rfl (fun h2 => ?_) (fun h2 => ?_) | refine WP.cond rfl (fun h2 => ?_) (fun h2 => ?_)
    · skip
      have hlt2 : i < b.length := by omega
      have hy : b[i]? = some b[i] := by simp [hlt2]
      generalize b[i] = y at hy
      rw [drop_cons hy] at hinv
      refine WP.skip <| WP.seq <| WP.block <| WP.seq <| WP.drawP [(0, none), (1, none), (2, none), (3, none), (4, none), (5, none), (6, none)] mixed (by kernel_rfl) (by kernel_rfl) (by kernel_rfl) take0 <| w0 rfl rfl rfl (S0.move rfl) rfl <| w0 rfl rfl rfl (S0.move rfl) rfl <| ?_  -- op t20 := index 9 t18 t19
      refine w0 rfl rfl rfl (S0.indexSt rfl rfl hx) rfl <| ?_
      refine w0 rfl rfl rfl (S0.move rfl) rfl <| w0 rfl rfl rfl (S0.move rfl) rfl <| ?_  -- op t23 := index 9 t21 t22
      refine w0 rfl rfl rfl (S0.indexSt rfl rfl hy) rfl <| ?_
      refine w0 rfl rfl rfl (S0.cmp rfl rfl rfl) rfl <| wE <| ?_  -- cond
      first | refine WP.condP rfl (fun h3 => ?_) (fun h3 => ?_) | refine WP.condN rfl (fun h3 => ?_) (fun h3 => ?_) | refine WP.cond rfl (fun h3 => ?_) (fun h3 => ?_)
      · skip
        have hne : x ≠ y := fun e => h3 (by rw [e])
        refine WP.seq <| WP.drawP [(0, none), (1, none), (2, none), (3, none), (4, none), (5, none), (6, none), (7, none)] mixed (by kernel_rfl) (by kernel_rfl) (by kernel_rfl) take0 <| w0 rfl rfl rfl (S0.move rfl) rfl <| w0 rfl rfl rfl (S0.move rfl) rfl <| ?_  -- op t27 := index 9 t25 t26
        refine w0 rfl rfl rfl (S0.indexSt rfl rfl hx) rfl <| ?_
        refine w0 rfl rfl rfl (S0.move rfl) rfl <| w0 rfl rfl rfl (S0.move rfl) rfl <| ?_  -- op t30 := index 9 t28 t29
        refine w0 rfl rfl rfl (S0.indexSt rfl rfl hy) rfl <| ?_
        refine w0 rfl rfl rfl (S0.cmp rfl rfl rfl) rfl <| w0 rfl rfl rfl (S0.assign rfl) rfl <| wE <| WP.ret <| ?_  -- ret
        refine r1 rfl rfl ⟨?_, rfl⟩
        rw [hinv, ltS_cons _ _ _ _ hne]
      · skip
        have he : x = y := UInt8.toNat_inj.1 (by omega)
        refine WP.skip <| WP.region <| v0 (S0.move rfl) rfl <| v0 (S0.ari rfl rfl rfl (wrap_i64 (by omega))) rfl <| v0 (S0.assign rfl) rfl <| vE <| ?_  -- roundend
        exact ⟨i + 1, (by first | exact ⟨hlt, hlt2, by rw [hinv, he]; simp [ltS]⟩ | (dsimp only; exact ⟨hlt, hlt2, by rw [hinv, he]; simp [ltS]⟩)), (by omega), ⟨⟨rfl, rfl, rfl, trivial⟩, rfl, rfl⟩, ⟨_, take0⟩⟩
    · skip
      have e : b.drop i = [] := List.drop_eq_nil_of_le (by omega)
      refine WP.exit <| WP.seq <| WP.region <| v0 (S0.move rfl) rfl <| v0 (S0.lenSt rfl) rfl <| v0 (S0.move rfl) rfl <| v0 (S0.lenSt rfl) rfl <| v0 (S0.cmp rfl rfl rfl) rfl <| v0 (S0.assign rfl) rfl <| vE <| WP.ret <| ?_  -- ret
      refine r1 rfl rfl ⟨?_, rfl⟩
      rw [hinv, e]
      have : ¬ (a.length : Int) < (b.length : Int) := by omega
      simp [ltS, this]
  · skip
    have e : a.drop i = [] := List.drop_eq_nil_of_le (by omega)
    refine gF rfl rfl <| gF rfl rfl <| gF rfl rfl <| gF rfl rfl <| v0 (S0.pickF rfl rfl) rfl <| vE <| WP.condF rfl <| WP.exit <| WP.seq <| WP.region <| v0 (S0.move rfl) rfl <| v0 (S0.lenSt rfl) rfl <| v0 (S0.move rfl) rfl <| v0 (S0.lenSt rfl) rfl <| v0 (S0.cmp rfl rfl rfl) rfl <| v0 (S0.assign rfl) rfl <| vE <| WP.ret <| ?_  -- ret
    refine r1 rfl rfl ⟨?_, rfl⟩
    rw [hinv, e]
    cases hb : b.drop i with
    | nil =>
      have := List.drop_eq_nil_iff.1 hb
      simp [ltS]; omega
    | cons y t =>
      have := congrArg List.length hb
      simp at this
      simp [ltS]; omega
theorem rless_spec {a b : Str} (ha : a.length ≤ 100000) (hb : b.length ≤ 100000) : FN Tryz.prog 55 [sv a, sv b] [] (is (.bool (lessS a b)) []) := by
  have hal := levels_len a
  have hbl := levels_len b
  have hma : ∀ x ∈ levels a, x.length ≤ 1000000 := fun x hx => by have := levels_mem_len a x hx; omega
  have hmb : ∀ x ∈ levels b, x.length ≤ 1000000 := fun x hx => by have := levels_mem_len b x hx; omega
  refine FN.intro 47 [(0, sv a), (1, sv b)] Tryz.func55 rfl (enters Tryz.func55 (by kernel_rfl) rfl) Tryz.ntmps55 rfl rfl ?_
  refine WP.seq <| WP.region <| v0 (S0.assign rfl) rfl <| vE <| WP.seq <| WP.region <| v0 (S0.move rfl) rfl <| ?_  -- op t9 := call F44{rivulet/rivuletref03.Levels}(t8)
  refine vc (S1.callF rfl (rlevels_spec (show a.length ≤ 1000000 by omega)) take0) rfl ?_
  rintro _ _ ⟨ra, hsa, rfl⟩
  refine app ?_
  refine v0 (S0.move rfl) rfl <| ?_  -- op t11 := call F44{rivulet/rivuletref03.Levels}(t10)
  refine vc (S1.callF rfl (rlevels_spec (show b.length ≤ 1000000 by omega)) take0) rfl ?_
  rintro _ _ ⟨rb, hsb, rfl⟩
  refine app ?_
  rw [lessS]
  generalize levels a = A at hsa hal hma
  generalize levels b = B at hsb hbl hmb
  obtain ⟨aa, ac, rfl, -, hra⟩ := hsa.strsE
  obtain ⟨ba, bc, rfl, -, hrb⟩ := hsb.strsE
  refine v0 (S0.assign rfl) rfl <| v0 (S0.assign rfl) rfl <| vE <| WP.seq <| WP.seq <| WP.region <| v0 (S0.assign rfl) rfl <| vE <| WP.block <| ?_  -- Code.loop
  refine WP.loop (fun i : Nat => i ≤ A.length ∧ i ≤ B.length ∧ ltL A B = ltL (A.drop i) (B.drop i)) (fun i : Nat => [(5, .slice aa A.length ac), (6, .slice ba B.length bc), (7, .int .i64 (i : Int))]) (fun i : Nat => [ra, rb]) (fun i : Nat => A.length - i) (0) (⟨Nat.zero_le _, Nat.zero_le _, by simp⟩) ⟨rfl, rfl, rfl, trivial⟩ ⟨_, (take1 (atS at0) (take1 at0 take0))⟩ (fun i hinv => ?_) 
  obtain ⟨hi, hi2, hinv⟩ := hinv
  refine WP.seq <| WP.seq <| WP.region <| v0 (S0.move rfl) rfl <| v0 (S0.move rfl) rfl <| v0 (S0.lenSl rfl) rfl <| v0 (S0.cmp rfl rfl rfl) rfl <| v0 (S0.move rfl) rfl <| ?_  -- guard t16 (wants True) at t17 := move t7 [if #4=True]
  first | refine csP (t := 16) rfl (fun h1 => ?_) (fun h1 => ?_) | refine csN (t := 16) rfl (fun h1 => ?_) (fun h1 => ?_) | refine cs (t := 16) rfl (fun h1 => ?_) (fun h1 => ?_)
  · skip
    have hlt : i < A.length := by omega
    rcases hra with ⟨e, -⟩ | ⟨b1, sp1, rfl, rfl, hsp1⟩
    · rw [e] at hlt; simp at hlt
    have hx : A[i]? = some A[i] := by simp [hlt]
    have hxl := hma _ (List.getElem_mem hlt)
    generalize A[i] = x at hx hxl
    rw [drop_cons hx] at hinv
    refine gT rfl <| v0 (S0.move rfl) rfl <| gT rfl <| v0 (S0.move rfl) rfl <| gT rfl <| v0 (S0.lenSl rfl) rfl <| gT rfl <| v0 (S0.cmp rfl rfl rfl) rfl <| v0 (S0.pickT rfl rfl) rfl <| vE <| ?_  -- cond
    first | refine WP.condP rfl (fun h2 => ?_) (fun h2 => ?_) | refine WP.condN rfl (fun h2 => ?_) (fun h2 => ?_) | refine WP.cond rfl (fun h2 => ?_) (fun h2 => ?_)
    · skip
      have hlt2 : i < B.length := by omega
      rcases hrb with ⟨e, -⟩ | ⟨b2, sp2, rfl, rfl, hsp2⟩
      · rw [e] at hlt2; simp at hlt2
      have hy : B[i]? = some B[i] := by simp [hlt2]
      have hyl := hmb _ (List.getElem_mem hlt2)
      generalize B[i] = y at hy hyl
      rw [drop_cons hy] at hinv
      skip
      refine WP.skip <| WP.seq <| WP.block <| WP.seq <| WP.drawP [(0, none), (1, none), (2, none), (3, none), (4, none), (5, none), (6, none), (7, none), (8, none)] mixed (by kernel_rfl) (by kernel_rfl) (by kernel_rfl) (take1 at0 (take1 at0 take0)) <| w0 rfl rfl rfl (S0.move rfl) rfl <| w0 rfl rfl rfl (S0.move rfl) rfl <| ?_  -- op t26 := indexAddr 23 t24 t25
      refine w0 rfl rfl rfl (S0.index1 rfl rfl hlt) rfl <| ?_
      refine w0 rfl rfl rfl (S0.load rfl (strs_get hx)) rfl <| ?_
      refine w0 rfl rfl rfl (S0.move rfl) rfl <| w0 rfl rfl rfl (S0.move rfl) rfl <| ?_  -- op t30 := indexAddr 23 t28 t29
      refine w0 rfl rfl rfl (S0.index1 rfl rfl hlt2) rfl <| ?_
      refine w0 rfl rfl rfl (S0.load rfl (strs_get hy)) rfl <| ?_
      refine w0 rfl rfl rfl (S0.cmpS rfl rfl rfl) rfl <| wE <| ?_  -- cond
      first | refine WP.condP rfl (fun h3 => ?_) (fun h3 => ?_) | refine WP.condN rfl (fun h3 => ?_) (fun h3 => ?_) | refine WP.cond rfl (fun h3 => ?_) (fun h3 => ?_)
      · skip
        skip
        refine WP.seq <| WP.drawP [(0, none), (1, none), (2, none), (3, none), (4, none), (5, none), (6, none), (7, none), (8, none), (9, none)] mixed (by kernel_rfl) (by kernel_rfl) (by kernel_rfl) (take1 at0 (take1 at0 take0)) <| w0 rfl rfl rfl (S0.move rfl) rfl <| w0 rfl rfl rfl (S0.move rfl) rfl <| ?_  -- op t35 := indexAddr 23 t33 t34
        refine w0 rfl rfl rfl (S0.index1 rfl rfl hlt) rfl <| ?_
        refine w0 rfl rfl rfl (S0.load rfl (strs_get hx)) rfl <| ?_
        refine w0 rfl rfl rfl (S0.move rfl) rfl <| w0 rfl rfl rfl (S0.move rfl) rfl <| ?_  -- op t39 := indexAddr 23 t37 t38
        refine w0 rfl rfl rfl (S0.index1 rfl rfl hlt2) rfl <| ?_
        refine w0 rfl rfl rfl (S0.load rfl (strs_get hy)) rfl <| ?_
        -- (nothing to walk: op t41 := call F81{rivulet/rivuletref01.Less}(t36, t40))
        refine wcd rfl rfl rfl rfl (S1.callF rfl (rless1_spec hxl hyl) take0) rfl ?_
        refine w0 rfl rfl rfl (S0.assign rfl) rfl <| wE <| WP.ret <| ?_  -- ret
        refine Leaves.drop take0 ?_
        refine r1 rfl rfl ⟨?_, rfl⟩
        rw [hinv]; simp [ltL, h3]
      · skip
        refine WP.skip <| WP.region <| v0 (S0.move rfl) rfl <| v0 (S0.ari rfl rfl rfl (wrap_i64 (by omega))) rfl <| v0 (S0.assign rfl) rfl <| vE <| ?_  -- roundend
        exact ⟨i + 1, (by first | exact ⟨hlt, hlt2, by rw [hinv]; subst h3; simp [ltL, ltS_irr]⟩ | (dsimp only; exact ⟨hlt, hlt2, by rw [hinv]; subst h3; simp [ltL, ltS_irr]⟩)), (by omega), ⟨⟨rfl, rfl, rfl, trivial⟩, rfl, rfl⟩, ⟨_, (take1 at0 (take1 at0 take0))⟩⟩
    · skip
      have e : B.drop i = [] := List.drop_eq_nil_of_le (by omega)
      refine WP.exit <| WP.seq <| WP.region <| v0 (S0.move rfl) rfl <| v0 (S0.lenSl rfl) rfl <| v0 (S0.move rfl) rfl <| v0 (S0.lenSl rfl) rfl <| v0 (S0.cmp rfl rfl rfl) rfl <| v0 (S0.assign rfl) rfl <| vE <| WP.ret <| ?_  -- ret
      refine Leaves.drop take0 ?_
      refine r1 rfl rfl ⟨?_, rfl⟩
      rw [hinv, e]
      simp [ltL]; omega
  · skip
    have e : A.drop i = [] := List.drop_eq_nil_of_le (by omega)
    refine gF rfl rfl <| gF rfl rfl <| gF rfl rfl <| gF rfl rfl <| v0 (S0.pickF rfl rfl) rfl <| vE <| WP.condF rfl <| WP.exit <| WP.seq <| WP.region <| v0 (S0.move rfl) rfl <| v0 (S0.lenSl rfl) rfl <| v0 (S0.move rfl) rfl <| v0 (S0.lenSl rfl) rfl <| v0 (S0.cmp rfl rfl rfl) rfl <| v0 (S0.assign rfl) rfl <| vE <| WP.ret <| ?_  -- ret
    refine Leaves.drop take0 ?_
    refine r1 rfl rfl ⟨?_, rfl⟩
    rw [hinv, e]
    cases hb : B.drop i with
    | nil =>
      have := List.drop_eq_nil_iff.1 hb
      simp [ltL]; omega
    | cons y t =>
      have := congrArg List.length hb
      simp at this
      simp [ltL]; omega
theorem same_spec {va vb : Value} {A B : List Str} {ca cb : List Blk} (ha : RdS va A ca) (hb : RdS vb B cb) (hl : A.length ≤ 1000000) : FN Tryz.prog 15 [va, vb] [ca, cb] (is (.bool (decide (A = B))) [ca, cb]) := by
  obtain ⟨aa, ac, rfl, -, hra⟩ := ha
  obtain ⟨ba, bc, rfl, -, hrb⟩ := hb
  refine FN.intro 26 [(0, .slice aa A.length ac), (1, .slice ba B.length bc)] Tryz.func15 rfl (enters Tryz.func15 (by kernel_rfl) rfl) Tryz.ntmps15 rfl rfl ?_
  refine WP.seq <| WP.region <| v0 (S0.assign rfl) rfl <| vE <| WP.seq <| WP.seq <| WP.region <| v0 (S0.move rfl) rfl <| v0 (S0.lenSl rfl) rfl <| v0 (S0.move rfl) rfl <| v0 (S0.lenSl rfl) rfl <| v0 (S0.cmp rfl rfl rfl) rfl <| vE <| ?_  -- cond
  first | refine WP.condP rfl (fun h1 => ?_) (fun h1 => ?_) | refine WP.condN rfl (fun h1 => ?_) (fun h1 => ?_) | refine WP.cond rfl (fun h1 => ?_) (fun h1 => ?_)
  · skip
    refine WP.seq <| WP.region <| v0 (S0.assign rfl) rfl <| vE <| WP.ret <| ?_  -- ret
    refine r1 rfl rfl ⟨?_, rfl⟩
    have : A ≠ B := fun e => h1 (by rw [e])
    simp [this]
  · skip
    have hlen : A.length = B.length := by omega
    refine WP.skip <| WP.seq <| WP.seq <| WP.region <| v0 (S0.assign rfl) rfl <| vE <| WP.block <| ?_  -- Code.loop
    refine WP.loop (fun i : Nat => i ≤ A.length ∧ A.take i = B.take i) (fun i : Nat => [(0, .slice aa A.length ac), (1, .slice ba B.length bc), (5, .int .i64 (i : Int))]) (fun i : Nat => [ca, cb]) (fun i : Nat => A.length - i) (0) (⟨Nat.zero_le _, by simp⟩) ⟨rfl, rfl, rfl, trivial⟩ ⟨_, (take1 at0 (take1 at0 take0))⟩ (fun i hinv => ?_) 
    obtain ⟨hi, hinv⟩ := hinv
    refine WP.seq <| WP.seq <| WP.region <| v0 (S0.move rfl) rfl <| v0 (S0.move rfl) rfl <| v0 (S0.lenSl rfl) rfl <| v0 (S0.cmp rfl rfl rfl) rfl <| vE <| ?_  -- cond
    first | refine WP.condP rfl (fun h2 => ?_) (fun h2 => ?_) | refine WP.condN rfl (fun h2 => ?_) (fun h2 => ?_) | refine WP.cond rfl (fun h2 => ?_) (fun h2 => ?_)
    · skip
      have hlt : i < A.length := by omega
      have hlt2 : i < B.length := by omega
      rcases hra with e | ⟨b1, o1, L1, U1, fz1, rfl, hm1, he1⟩
      · rw [e] at hlt; simp at hlt
      rcases hrb with e | ⟨b2, o2, L2, U2, fz2, rfl, hm2, he2⟩
      · rw [e] at hlt2; simp at hlt2
      have : HasC ca b1 (.cells ⟨L1⟩ U1 fz1) := ⟨hm1⟩
      have : HasC cb b2 (.cells ⟨L2⟩ U2 fz2) := ⟨hm2⟩
      have hx : A[i]? = some A[i] := by simp [hlt]
      generalize A[i] = x at hx
      have hy : B[i]? = some B[i] := by simp [hlt2]
      generalize B[i] = y at hy
      have hxe := he1 i x hx
      have hye := he2 i y hy
      skip
      refine WP.skip <| WP.seq <| WP.block <| WP.seq <| WP.drawP [(0, none), (1, none), (2, none), (3, none), (4, none), (5, none), (6, none), (7, none), (8, none)] mixed (by kernel_rfl) (by kernel_rfl) (by kernel_rfl) (take1 at0 (take1 at0 take0)) <| w0 rfl rfl rfl (S0.move rfl) rfl <| w0 rfl rfl rfl (S0.move rfl) rfl <| ?_  -- op t19 := indexAddr 23 t17 t18
      refine w0 rfl rfl rfl (S0.indexO1 rfl rfl hlt) rfl <| ?_
      refine w0 rfl rfl rfl (S0.load rfl (rdS_get hxe)) rfl <| ?_
      refine w0 rfl rfl rfl (S0.move rfl) rfl <| w0 rfl rfl rfl (S0.move rfl) rfl <| ?_  -- op t23 := indexAddr 23 t21 t22
      refine w0 rfl rfl rfl (S0.indexO1 rfl rfl hlt2) rfl <| ?_
      refine w0 rfl rfl rfl (S0.load rfl (rdS_get hye)) rfl <| ?_
      refine w0 rfl rfl rfl (S0.cmpS rfl rfl rfl) rfl <| wE <| ?_  -- cond
      first | refine WP.condP rfl (fun h3 => ?_) (fun h3 => ?_) | refine WP.condN rfl (fun h3 => ?_) (fun h3 => ?_) | refine WP.cond rfl (fun h3 => ?_) (fun h3 => ?_)
      · skip
        refine WP.seq <| WP.region <| v0 (S0.assign rfl) rfl <| vE <| WP.ret <| ?_  -- ret
        refine r1 rfl rfl ⟨?_, rfl⟩
        have : A ≠ B := fun e => h3 (by rw [e, hy] at hx; cases hx; rfl)
        simp [this]
      · skip
        refine WP.skip <| WP.region <| v0 (S0.move rfl) rfl <| v0 (S0.ari rfl rfl rfl (wrap_i64 (by omega))) rfl <| v0 (S0.assign rfl) rfl <| vE <| ?_  -- roundend
        exact ⟨i + 1, (by first | exact ⟨hlt, by subst h3; rw [List.take_add_one, List.take_add_one, hx, hy, hinv]⟩ | (dsimp only; exact ⟨hlt, by subst h3; rw [List.take_add_one, List.take_add_one, hx, hy, hinv]⟩)), (by omega), ⟨⟨rfl, rfl, rfl, trivial⟩, rfl, rfl⟩, ⟨_, (take1 at0 (take1 at0 take0))⟩⟩
    · skip
      refine WP.exit <| WP.seq <| WP.region <| v0 (S0.assign rfl) rfl <| vE <| WP.ret <| ?_  -- ret
      refine r1 rfl rfl ⟨?_, rfl⟩
      rw [List.take_of_length_le (by omega), List.take_of_length_le (by omega)] at hinv
      simp [hinv]
theorem insS_at {f : Str} : ∀ {l : List Str} {i : Nat}, i ≤ l.length → (∀ j y, j < i → l[j]? = some y → lessS y f = true) → (∀ y, l[i]? = some y → lessS y f = false) → insS l f = if l[i]? = some f then l else l.take i ++ f :: l.drop i
  | [], i, hi, _, _ => by simp at hi; subst hi; simp [insS]
  | x :: l, 0, _, _, h2 => by
    have := h2 x rfl
    simp only [insS, this, List.getElem?_cons_zero, Option.some.injEq]
    simp
  | x :: l, i + 1, hi, h1, h2 => by
    have h0 := h1 0 x (by omega) rfl
    have ih := insS_at (f := f) (l := l) (i := i) (by simpa using hi) (fun j y hj hy => h1 (j + 1) y (by omega) (by simpa using hy)) (fun y hy => h2 y (by simpa using hy))
    simp only [insS, h0, if_true, ih, List.getElem?_cons_succ]
    split <;> simp
theorem rinsert_spec {v : Value} {l : List Str} {row : List Blk} {f : Str} (hs : IsSl 9 1 v (strs l) row) (hl : l.length ≤ 1000) (hx : ∀ x ∈ l, x.length ≤ 1000) (hf : f.length ≤ 1000) :
    FN Tryz.prog 53 [v, sv f] [row] (fun u h => ∃ row2, IsSl 9 1 u (strs (insS l f)) row2 ∧ h = [row2]) := by
  have hs' := hs
  obtain ⟨a, cap, rfl, hcap, hrow⟩ := hs'.strsE
  refine FN.intro 49 [(0, .slice a l.length cap), (1, sv f)] Tryz.func53 rfl (enters Tryz.func53 (by kernel_rfl) rfl) Tryz.ntmps53 rfl rfl ?_
  refine WP.seq <| WP.region <| v0 (S0.assign rfl) rfl <| vE <| WP.seq <| WP.region <| v0 (S0.assign rfl) rfl <| vE <| WP.seq <| WP.block <| ?_  -- Code.loop
  refine WP.loop (fun i : Nat => i ≤ l.length ∧ ∀ j y, j < i → l[j]? = some y → lessS y f = true) (fun i : Nat => [(0, .slice a l.length cap), (1, sv f), (5, .int .i64 (i : Int))]) (fun i : Nat => [row]) (fun i : Nat => l.length - i) (0) (⟨Nat.zero_le _, fun j y hj => by omega⟩) ⟨rfl, rfl, rfl, trivial⟩ ⟨_, (take1 at0 take0)⟩ (fun i hinv => ?_) 
  obtain ⟨hi, hall⟩ := hinv
  refine WP.seq <| WP.seq <| WP.region <| v0 (S0.move rfl) rfl <| v0 (S0.move rfl) rfl <| v0 (S0.lenSl rfl) rfl <| v0 (S0.cmp rfl rfl rfl) rfl <| v0 (S0.move rfl) rfl <| ?_  -- guard t11 (wants True) at t12 := move t0 [if #4=True]
  first | refine csP (t := 11) rfl (fun h1 => ?_) (fun h1 => ?_) | refine csN (t := 11) rfl (fun h1 => ?_) (fun h1 => ?_) | refine cs (t := 11) rfl (fun h1 => ?_) (fun h1 => ?_)
  · skip
    have hlt : i < l.length := by omega
    rcases hrow with ⟨e, -⟩ | ⟨b1, sp1, rfl, rfl, hsp1⟩
    · rw [e] at hlt; simp at hlt
    have hg : l[i]? = some l[i] := by simp [hlt]
    have hxl := hx _ (List.getElem_mem hlt)
    generalize l[i] = x at hg hxl
    refine gT rfl <| v0 (S0.move rfl) rfl <| gT rfl <| v0 (S0.move rfl) rfl <| ?_  -- op t14 := indexAddr 23 t12 t13 [if #4=True]
    refine gT rfl <| v0 (S0.index1 rfl rfl hlt) rfl <| ?_
    refine gT rfl <| v0 (S0.load rfl (strs_get hg)) rfl <| ?_
    refine gT rfl <| v0 (S0.move rfl) rfl <| ?_  -- op t17 := call F55{rivulet/rivuletref03.Less}(t15, t16) [if #4=True]
    refine gT rfl <| vcd (S1.callF rfl (rless_spec (show x.length ≤ 100000 by omega) (show f.length ≤ 100000 by omega)) take0) rfl ?_
    refine v0 (S0.pickT rfl rfl) rfl <| vE <| ?_  -- cond
    first | refine WP.condP rfl (fun h2 => ?_) (fun h2 => ?_) | refine WP.condN rfl (fun h2 => ?_) (fun h2 => ?_) | refine WP.cond rfl (fun h2 => ?_) (fun h2 => ?_)
    · skip
      refine WP.skip <| WP.block <| WP.region <| v0 (S0.move rfl) rfl <| v0 (S0.ari rfl rfl rfl (wrap_i64 (by omega))) rfl <| v0 (S0.assign rfl) rfl <| vE <| ?_  -- roundend
      exact ⟨i + 1, (by first | exact ⟨hlt, below_at (p := fun _ y => lessS y f = true) hall hg h2⟩ | (dsimp only; exact ⟨hlt, below_at (p := fun _ y => lessS y f = true) hall hg h2⟩)), (by omega), ⟨⟨rfl, rfl, rfl, trivial⟩, rfl, rfl⟩, ⟨_, (take1 at0 take0)⟩⟩
    · skip
      have hins := insS_at (f := f) hi hall (fun y hy => by rw [hg] at hy; cases hy; simpa using h2)
      rw [hg] at hins
      refine WP.exit <| WP.seq <| WP.seq <| WP.region <| v0 (S0.move rfl) rfl <| v0 (S0.move rfl) rfl <| v0 (S0.lenSl rfl) rfl <| v0 (S0.cmp rfl rfl rfl) rfl <| v0 (S0.move rfl) rfl <| ?_  -- guard t25 (wants True) at t26 := move t0 [if #4=True]
      refine csTh (t := 25) rfl ((by simp; omega)) ?_
      refine gT rfl <| v0 (S0.move rfl) rfl <| gT rfl <| v0 (S0.move rfl) rfl <| ?_  -- op t28 := indexAddr 23 t26 t27 [if #4=True]
      refine gT rfl <| v0 (S0.index1 rfl rfl hlt) rfl <| ?_
      refine gT rfl <| v0 (S0.load rfl (strs_get hg)) rfl <| ?_
      refine gT rfl <| v0 (S0.move rfl) rfl <| gT rfl <| v0 (S0.cmpS rfl rfl rfl) rfl <| v0 (S0.pickT rfl rfl) rfl <| vE <| ?_  -- cond
      first | refine WP.condP rfl (fun h3 => ?_) (fun h3 => ?_) | refine WP.condN rfl (fun h3 => ?_) (fun h3 => ?_) | refine WP.cond rfl (fun h3 => ?_) (fun h3 => ?_)
      · skip
        refine WP.seq <| WP.region <| v0 (S0.move rfl) rfl <| v0 (S0.assign rfl) rfl <| vE <| WP.ret <| ?_  -- ret
        refine r1 rfl rfl ?_
        exact ⟨_, by rw [hins, if_pos (by rw [h3])]; exact hs, rfl⟩
      · skip
        rw [if_neg (fun e => h3 (by simpa using e))] at hins
        obtain ⟨hw, hle⟩ := strs_cut sp1 l 0 i cap (Nat.zero_le _) (by omega) hcap
        obtain ⟨hw2, hle2⟩ := strs_cut sp1 l i l.length cap (by omega) (Nat.le_refl _) hcap
        rw [List.drop_zero, Nat.sub_zero] at hw
        have htl : (l.take i).length = i := by rw [List.length_take]; omega
        have hdl : ((l.drop i).take (l.length - i)) = l.drop i := List.take_of_length_le (by simp)
        rw [hdl] at hw2
        refine WP.skip <| WP.seq <| WP.region <| vnv (S1.buildSlice rfl (qs := []) rfl rfl) rfl fun b34 => v0 (S0.move rfl) rfl <| v0 (S0.move rfl) rfl <| ?_  -- op t37 := slice 23 t35 none t36 none
        refine v0 (S0.slice (i := 0) (j := i) rfl rfl rfl ⟨Nat.zero_le _, by omega⟩) rfl <| ?_
        refine ve (S1.appendS rfl (IsSl.row (n := 0) (c := 0) (l := []) (sp := []) rfl rfl (Nat.le_refl _)) rfl hle hw at0 (strs_cv _) rfl (by rw [strs_len, htl]; simp only [List.length_nil]; omega)) rfl ?_
        rintro v2 _ ⟨row2, hs2, rfl⟩
        rw [List.nil_append] at hs2
        refine v0 (S0.assign rfl) rfl <| vE <| WP.seq <| WP.region <| v0 (S0.move rfl) rfl <| v0 (S0.move rfl) rfl <| vnv (S1.buildSlice rfl (qs := [(0, _)]) rfl rfl) rfl fun b41 => ?_  -- op t42 := append(t39, t41) :[23, 23]
        refine ve (S1.appendL rfl hs2 rfl rfl (atS at0) rfl rfl (by rw [strs_len, htl]; simp; omega)) rfl ?_
        rintro v3 _ ⟨row3, hs3, rfl⟩
        refine v0 (S0.assign rfl) rfl <| vE <| WP.seq <| WP.region <| v0 (S0.move rfl) rfl <| v0 (S0.move rfl) rfl <| v0 (S0.move rfl) rfl <| ?_  -- op t46 := slice 23 t44 t45 none none
        refine v0 (S0.slice (i := i) (j := l.length) rfl rfl rfl ⟨by omega, hcap⟩) rfl <| ?_
        refine ve (S1.appendS rfl hs3 rfl hle2 hw2 at0 (strs_cv _) rfl (by rw [List.length_append, strs_len, htl, strs_len]; simp; omega)) rfl ?_
        rintro v4 _ ⟨row4, hs4, rfl⟩
        refine v0 (S0.assign rfl) rfl <| vE <| WP.seq <| WP.region <| v0 (S0.move rfl) rfl <| v0 (S0.assign rfl) rfl <| vE <| WP.ret <| ?_  -- ret
        refine Leaves.drop (take1 at0 take0) ?_
        refine r1 rfl rfl ?_
        refine ⟨row4, ?_, rfl⟩
        rw [hins]
        simpa [strs] using hs4
  · skip
    have e : i = l.length := by omega
    subst e
    have hins := insS_at (f := f) (Nat.le_refl _) hall (fun y hy => by simp at hy)
    rw [if_neg (by simp), List.take_length, List.drop_length] at hins
    refine gF rfl rfl <| gF rfl rfl <| gF rfl rfl <| gF rfl rfl <| gF rfl rfl <| gF rfl rfl <| v0 (S0.pickF rfl rfl) rfl <| vE <| WP.condF rfl <| WP.exit <| WP.seq <| WP.seq <| WP.region <| v0 (S0.move rfl) rfl <| v0 (S0.move rfl) rfl <| v0 (S0.lenSl rfl) rfl <| v0 (S0.cmp rfl rfl rfl) rfl <| v0 (S0.move rfl) rfl <| ?_  -- guard t25 (wants True) at t26 := move t0 [if #4=True]
    refine csFh (t := 25) rfl ((by simp)) ?_
    refine gF rfl rfl <| gF rfl rfl <| gF rfl rfl <| gF rfl rfl <| gF rfl rfl <| gF rfl rfl <| v0 (S0.pickF rfl rfl) rfl <| vE <| WP.condF rfl <| WP.skip <| WP.seq <| WP.region <| vnv (S1.buildSlice rfl (qs := []) rfl rfl) rfl fun b34 => v0 (S0.move rfl) rfl <| v0 (S0.move rfl) rfl <| ?_  -- op t37 := slice 23 t35 none t36 none
    obtain ⟨-, -, hc1⟩ := hs.rdS.cutG 0 l.length (Nat.zero_le _) (Nat.le_refl _)
    obtain ⟨-, -, hc2⟩ := hs.rdS.cutG l.length l.length (Nat.le_refl _) (Nat.le_refl _)
    refine v0 (S0.sliceG (i := 0) (j := l.length) rfl rfl rfl ⟨Nat.zero_le _, hcap⟩) rfl <| ?_
    refine ve (S1.appendRd rfl (IsSl.row (n := 0) (c := 0) (l := []) (sp := []) rfl rfl (Nat.le_refl _)) rfl hc1 (fun q hq => List.mem_flatten.2 ⟨_, by simp, hq⟩) at0 rfl (by simp; omega)) rfl ?_
    rintro v2 _ ⟨row2, hs2, rfl⟩
    rw [List.nil_append] at hs2
    refine v0 (S0.assign rfl) rfl <| vE <| WP.seq <| WP.region <| v0 (S0.move rfl) rfl <| v0 (S0.move rfl) rfl <| vnv (S1.buildSlice rfl (qs := [(0, _)]) rfl rfl) rfl fun b41 => ?_  -- op t42 := append(t39, t41) :[23, 23]
    refine ve (S1.appendL rfl hs2 rfl rfl (atS at0) rfl rfl (by rw [strs_len]; simp; omega)) rfl ?_
    rintro v3 _ ⟨row3, hs3, rfl⟩
    refine v0 (S0.assign rfl) rfl <| vE <| WP.seq <| WP.region <| v0 (S0.move rfl) rfl <| v0 (S0.move rfl) rfl <| v0 (S0.move rfl) rfl <| ?_  -- op t46 := slice 23 t44 t45 none none
    refine v0 (S0.sliceG (i := l.length) (j := l.length) rfl rfl rfl ⟨Nat.le_refl _, hcap⟩) rfl <| ?_
    refine ve (S1.appendRd rfl hs3 rfl hc2 (fun q hq => List.mem_flatten.2 ⟨_, by simp, hq⟩) at0 rfl (by rw [List.length_append, strs_len]; simp; omega)) rfl ?_
    rintro v4 _ ⟨row4, hs4, rfl⟩
    refine v0 (S0.assign rfl) rfl <| vE <| WP.seq <| WP.region <| v0 (S0.move rfl) rfl <| v0 (S0.assign rfl) rfl <| vE <| WP.ret <| ?_  -- ret
    refine Leaves.drop (take1 at0 take0) ?_
    refine r1 rfl rfl ?_
    refine ⟨row4, ?_, rfl⟩
    rw [hins]
    simpa [strs] using hs4
end Go.Proofs.YtipljeomgdomnaaGreatDoor
/- R1 -/
namespace Go.Proofs.YtipljeomgdomnaaGreatDoor
open Go

/-- the document's trie at block rb has the asks L -/
def IsRT (rb : Nat) (L : Asks) (c : List Blk) : Prop := ∃ v row, IsSl 96 3 v (L.flatMap enK) row ∧ c = (rb, cel [v] 69) :: row
theorem place_spec {rb : Nat} {L : Asks} {c : List Blk} (hc : IsRT rb L c) (hl : L.length ≤ 1000000) (f : Str) (i : Int) :
    FN Tryz.prog 65 [.pointer (some ⟨rb, 0, none⟩), sv f, .int .i64 i] [c] (is (.int .i64 (idxP (isK f i) L)) [c]) := by
  obtain ⟨v, row, hsl, rfl⟩ := hc
  obtain ⟨a, cap, rfl, hcap, hrow⟩ := IsSl.elems (k := 2) enK_len hsl
  refine FN.intro 40 [(0, .pointer (some ⟨rb, 0, none⟩)), (1, sv f), (2, .int .i64 i)] Tryz.func65 rfl (enters Tryz.func65 (by kernel_rfl) rfl) Tryz.ntmps65 rfl rfl ?_
  refine WP.seq <| WP.region <| v0 (S0.assign rfl) rfl <| vE <| WP.seq <| WP.seq <| WP.region <| v0 (S0.assign rfl) rfl <| vE <| WP.block <| ?_  -- Code.loop
  refine WP.loop (fun k : Nat => k ≤ L.length ∧ ∀ j y, j < k → L[j]? = some y → isK f i y = false) (fun k : Nat => [(0, .pointer (some ⟨rb, 0, none⟩)), (1, sv f), (2, .int .i64 i), (7, .int .i64 (k : Int))]) (fun k : Nat => [(rb, cel [.slice a L.length cap] 69) :: row]) (fun k : Nat => L.length - k) (0) (⟨Nat.zero_le _, fun j y hj => by omega⟩) ⟨rfl, rfl, rfl, rfl, trivial⟩ ⟨_, (take1 at0 take0)⟩ (fun k hinv => ?_) 
  obtain ⟨hk, hno⟩ := hinv
  refine WP.seq <| WP.seq <| WP.region <| v0 (S0.move rfl) rfl <| v0 (S0.move rfl) rfl <| v0 (S0.nilCheck rfl) rfl <| v0 (S0.fieldAddr rfl) rfl <| v0 (S0.load rfl rfl) rfl <| v0 (S0.lenSl rfl) rfl <| v0 (S0.cmp rfl rfl rfl) rfl <| vE <| ?_  -- cond
  first | refine WP.condP rfl (fun h1 => ?_) (fun h1 => ?_) | refine WP.condN rfl (fun h1 => ?_) (fun h1 => ?_) | refine WP.cond rfl (fun h1 => ?_) (fun h1 => ?_)
  · skip
    have hlt : k < L.length := by omega
    rcases hrow with ⟨e, -⟩ | ⟨b1, sp1, rfl, rfl, hsp1⟩
    · rw [e] at hlt; simp at hlt
    have hx : L[k]? = some L[k] := by simp [hlt]
    generalize L[k] = x at hx
    refine WP.skip <| WP.seq <| WP.block <| WP.seq <| WP.region <| v0 (S0.move rfl) rfl <| v0 (S0.nilCheck rfl) rfl <| v0 (S0.fieldAddr rfl) rfl <| v0 (S0.load rfl rfl) rfl <| v0 (S0.move rfl) rfl <| ?_  -- op t22 := indexAddr 67 t20 t21
    refine v0 (S0.indexN (k := 3) rfl rfl hlt) rfl <| ?_
    refine v0 (S0.fieldAddr rfl) rfl <| ?_  -- limit
    refine v0 (S0.load rfl (flat_get enK_len sp1 L k 0 x hx (by decide))) rfl <| ?_
    refine v0 (S0.move rfl) rfl <| v0 (S0.cmpS rfl rfl rfl) rfl <| v0 (S0.move rfl) rfl <| ?_  -- guard t27 (wants True) at t28 := move t0 [if #10=True]
    first | refine csP (t := 27) rfl (fun h2 => ?_) (fun h2 => ?_) | refine csN (t := 27) rfl (fun h2 => ?_) (fun h2 => ?_) | refine cs (t := 27) rfl (fun h2 => ?_) (fun h2 => ?_)
    · skip
      refine gT rfl <| v0 (S0.move rfl) rfl <| gT rfl <| v0 (S0.nilCheck rfl) rfl <| gT rfl <| v0 (S0.fieldAddr rfl) rfl <| gT rfl <| v0 (S0.load rfl rfl) rfl <| gT rfl <| v0 (S0.move rfl) rfl <| ?_  -- op t33 := indexAddr 67 t31 t32 [if #10=True]
      refine gT rfl <| v0 (S0.indexN (k := 3) rfl rfl hlt) rfl <| ?_
      refine gT rfl <| v0 (S0.fieldAddr rfl) rfl <| ?_  -- limit
      refine gT rfl <| v0 (S0.load rfl (flat_get enK_len sp1 L k 1 x hx (by decide))) rfl <| ?_
      refine gT rfl <| v0 (S0.move rfl) rfl <| gT rfl <| v0 (S0.cmp rfl rfl rfl) rfl <| v0 (S0.pickT rfl rfl) rfl <| vE <| ?_  -- cond
      first | refine WP.condP rfl (fun h3 => ?_) (fun h3 => ?_) | refine WP.condN rfl (fun h3 => ?_) (fun h3 => ?_) | refine WP.cond rfl (fun h3 => ?_) (fun h3 => ?_)
      · skip
        refine WP.seq <| WP.region <| v0 (S0.move rfl) rfl <| v0 (S0.assign rfl) rfl <| vE <| WP.ret <| ?_  -- ret
        refine r1 rfl rfl ⟨?_, rfl⟩
        rw [idxP_at hno hx (by simp [isK, h2, h3])]
      · skip
        refine WP.skip <| WP.region <| v0 (S0.move rfl) rfl <| v0 (S0.ari rfl rfl rfl (wrap_i64 (by omega))) rfl <| v0 (S0.assign rfl) rfl <| vE <| ?_  -- roundend
        exact ⟨k + 1, (by first | exact ⟨hlt, below_at (p := fun _ y => isK f i y = false) hno hx (by simp [isK, h3])⟩ | (dsimp only; exact ⟨hlt, below_at (p := fun _ y => isK f i y = false) hno hx (by simp [isK, h3])⟩)), (by omega), ⟨⟨rfl, rfl, rfl, rfl, trivial⟩, rfl, rfl⟩, ⟨_, (take1 at0 take0)⟩⟩
    · skip
      refine gF rfl rfl <| gF rfl rfl <| gF rfl rfl <| gF rfl rfl <| gF rfl rfl <| gF rfl rfl <| gF rfl rfl <| gF rfl rfl <| gF rfl rfl <| gF rfl rfl <| v0 (S0.pickF rfl rfl) rfl <| vE <| WP.condF rfl <| WP.skip <| WP.region <| v0 (S0.move rfl) rfl <| v0 (S0.ari rfl rfl rfl (wrap_i64 (by omega))) rfl <| v0 (S0.assign rfl) rfl <| vE <| ?_  -- roundend
      exact ⟨k + 1, (by first | exact ⟨hlt, below_at (p := fun _ y => isK f i y = false) hno hx (by simp [isK, h2])⟩ | (dsimp only; exact ⟨hlt, below_at (p := fun _ y => isK f i y = false) hno hx (by simp [isK, h2])⟩)), (by omega), ⟨⟨rfl, rfl, rfl, rfl, trivial⟩, rfl, rfl⟩, ⟨_, (take1 at0 take0)⟩⟩
  · skip
    refine WP.exit <| WP.seq <| WP.region <| v0 (S0.assign rfl) rfl <| vE <| WP.ret <| ?_  -- ret
    refine r1 rfl rfl ⟨?_, rfl⟩
    rw [idxP_none fun j y hj => hno j y (by omega)]
theorem idx_has (L : Asks) (f : Str) (i : Int) : (idxP (isK f i) L = -1 ∧ hasK L f i = 0 ∧ ¬ ∃ x ∈ L, x.1 = f ∧ x.2.1 = i) ∨ ∃ (k : Nat) (n : Int), idxP (isK f i) L = (k : Int) ∧ L[k]? = some (f, i, n) ∧ hasK L f i = n := by
  have := has_idx L f i
  unfold idxP
  cases h : L.findIdx? (isK f i) with
  | none => rw [h] at this; exact .inl ⟨rfl, this.1, this.2⟩
  | some k => rw [h] at this; obtain ⟨n, h1, h2⟩ := this; exact .inr ⟨k, n, rfl, h1, h2⟩
-- left out: rhas_spec ((*rivulet/rivuletref04.Trie).Has)






























end Go.Proofs.YtipljeomgdomnaaGreatDoor
/- RdG -/
/-
  'append(x, y...)': y read, elements of whatever kind.
-/
namespace Go.Proofs.YtipljeomgdomnaaGreatDoor
open Go

theorem rd_all {α : Type} {en : α → List Value} {k : Nat} {L : List Value} (hk : ∀ x, (en x).length = k + 1) : ∀ {R : List α} {o : Nat}, (∀ i x, R[i]? = some x → (L.drop (o + i * (k + 1))).take (k + 1) = en x) → R ≠ [] →
    (L.drop o).take (R.length * (k + 1)) = R.flatMap en ∧ o + R.length * (k + 1) ≤ L.length
  | [], _, _, h => absurd rfl h
  | x :: R, o, h, _ => by
    have h0 := h 0 x rfl
    simp only [Nat.zero_mul, Nat.add_zero] at h0
    have hlen : o + (k + 1) ≤ L.length := by
      have := congrArg List.length h0
      rw [hk, List.length_take, List.length_drop] at this
      omega
    by_cases hR : R = []
    · subst hR
      refine ⟨?_, by simpa using hlen⟩
      simp only [List.length_cons, List.length_nil, List.flatMap_cons, List.flatMap_nil, List.append_nil, Nat.zero_add, Nat.one_mul]
      exact h0
    · obtain ⟨h1, h2⟩ := rd_all hk (R := R) (o := o + (k + 1)) (fun i y hy => by
        have := h (i + 1) y hy
        rw [Nat.succ_mul, Nat.add_comm (i * (k + 1)), ← Nat.add_assoc] at this
        exact this) hR
      refine ⟨?_, ?_⟩
      · rw [List.length_cons, Nat.succ_mul, Nat.add_comm, List.take_add, h0, List.drop_drop, List.flatMap_cons, h1]
      · rw [List.length_cons, Nat.succ_mul]; omega
section
variable {P : Program} {r : Option Nat} {f : Fr} {h : Hp} {d : Option Tmp} {ty : TypeId} {p : String} {af : Array Edge} {gd : Option (Nat × Bool)} {T E T2 E2 : TypeId} {x y : Operand} {k by_ : Nat} {zv v u : Value}
theorem S1.appendR {α : Type} {en : α → List Value} (hk : ∀ x, (en x).length = k + 1) (hcv : ∀ x, (en x).all cellV = true) {R : List α} {l : List Value} {c0 c : List Blk} {hr : Hp} [kk : Und P T (.slice E)] [k2 : Und P T2 (.slice E2)] [ki : Inf P E (k + 1) by_ zv]
    (hx : ev f x = some v) (hs : IsSl E (k + 1) v l c) (hy : ev f y = some u) (hu : Rd (k + 1) en u R c0) (hin : ∀ q ∈ c0, q ∈ h.flatten)
    (hp : h.flatten.Perm (c ++ hr.flatten)) (hz : zv.cells.size = k + 1) (hroom : l.length + R.length * (k + 1) ≤ 1000000000) (hb : by_ ≤ 100000 := by decide) :
    S1 P r ⟨d, .call ⟨.builtin .append, #[x, y], #[T, T2]⟩, ty, p, af, gd⟩ f h (fun v' h' => ∃ c', IsSl E (k + 1) v' (l ++ R.flatMap en) c' ∧ h' = c' :: hr) := by
  have hsl : (R.flatMap en).length = R.length * (k + 1) := flat_len hk R
  have hrm : (l.length + (R.flatMap en).length) * by_ ≤ 140737488355328 ∧ l.length + (R.flatMap en).length < 4611686018427387904 := ⟨by
    rw [hsl]
    have := Nat.mul_le_mul hroom hb
    omega, by omega⟩
  obtain ⟨a, cap, rfl, hcap, hu⟩ := hu
  by_cases hR : R = []
  · subst hR
    simp only [List.flatMap_nil, List.append_nil]
    refine S1.ofRun (by intro c; simp) fun E' R' ρ w k' st => ?_
    have hexec : execOp ρ ⟨d, .call ⟨.builtin .append, #[x, y], #[T, T2]⟩, ty, p, af, gd⟩ = (do pure (.value (← Builtin.append_ #[T, T2] ty #[v, .slice a 0 cap]))) := by
      simp only [execOp, resolve, invoke, builtin]
      simp [k' _ _ hx, k' _ _ hy]
    have hf : (Builtin.firstCells (k + 1) 0 (.slice a 0 cap)).run P w = .ok ⟨[]⟩ w := by
      cases a <;> simp [Builtin.firstCells, loadCells, loadCellsFrom]
    refine ⟨v, _, w, ?_, ⟨c, hs, rfl⟩, by simpa using st.perm (hp.append_right R')⟩
    rw [hexec]
    obtain ⟨ab, n, cp, rfl, hle⟩ : ∃ ab n cp, v = .slice ab n cp ∧ n ≤ cp := by
      cases hs with
      | nil => exact ⟨_, _, _, rfl, Nat.le_refl _⟩
      | row _ _ h3 => exact ⟨_, _, _, rfl, h3⟩
    have := run_append_in (P := P) (ty := ty) (T := T) (T2 := T2) (E := E) (E2 := E2) (k := k + 1) (by_ := by_) (zv := zv) (w := w) (base := ab) (n := n) (c := cp) (m := 0) (ws := []) ⟨a, cap, rfl⟩ hf (by omega) (w' := w) (by cases ab <;> rfl)
    simp [this]
  · rcases hu with e | ⟨b, o, L, U, fz, rfl, hm, hel⟩
    · exact absurd e hR
    obtain ⟨h1, h2⟩ := rd_all hk hel hR
    have h3 := S1.append (P := P) (r := r) (d := d) (ty := ty) (p := p) (af := af) (gd := gd) (T := T) (T2 := T2) (E2 := E2) (kk := kk) (k2 := k2) (ki := ki) hx hs hy (ws := R.flatMap en) (m := R.length) (.inr ⟨b, o, cap, L, U, fz, rfl, hin _ hm, h2, h1⟩) hp (flat_cv hcv R) hz hrm
    exact ⟨fun E' R a w next Q hxx st kont => h3.run E' R a w next Q hxx st fun v h' w' hpost st' => by
      obtain ⟨c', h2, -, h3⟩ := hpost
      exact kont v h' w' ⟨c', h2, h3⟩ st'⟩
end
/-- integers that are read -/
abbrev RdI (v : Value) (R : List Int) (c : List Blk) : Prop := Rd 1 (fun x : Int => [Value.int .i64 x]) v R c
theorem IsSl.rdI {E : TypeId} {R : List Int} {v : Value} {row : List Blk} (h : IsSl E 1 v (ints R) row) : RdI v R row := by
  rw [ints_flat] at h
  exact IsSl.rd (k := 0) (fun _ => rfl) h
end Go.Proofs.YtipljeomgdomnaaGreatDoor
/- R2 -/
namespace Go.Proofs.YtipljeomgdomnaaGreatDoor
open Go

theorem radd_spec {rb : Nat} {L : Asks} {c : List Blk} {m : Nat} (hc : IsRT rb L c) (hok : AsksOk L) (hb : AskB L m) (hm : m ≤ 100000) {f : Str} (hf : f.length ≤ 1000) (i : Int) :
    FN Tryz.prog 38 [.pointer (some ⟨rb, 0, none⟩), sv f, .int .i64 i] [c] (fun v h => ∃ c', v = .tuple ⟨[.int .i64 (addV L f i), .int .i64 (addE f i)]⟩ ∧ IsRT rb (addR L f i) c' ∧ h = [c']) := by
  have hc0 := hc
  have hbl := hb.len
  have hpl := place_spec hc (by omega) f i
  obtain ⟨v, row, hsl, rfl⟩ := hc
  refine FN.intro 61 [(0, .pointer (some ⟨rb, 0, none⟩)), (1, sv f), (2, .int .i64 i)] Tryz.func38 rfl (enters Tryz.func38 (by kernel_rfl) rfl) Tryz.ntmps38 rfl rfl ?_
  refine WP.seq <| WP.region <| v0 (S0.assign rfl) rfl <| v0 (S0.assign rfl) rfl <| vE <| WP.seq <| WP.seq <| WP.region <| v0 (S0.move rfl) rfl <| ?_  -- op t10 := call F27{rivulet/rivuletref03.Filter}(t9)
  refine vcd (S1.callF rfl (rfilter_spec (show f.length ≤ 900000 by omega)) take0) rfl ?_
  refine v0 (S0.not rfl) rfl <| v0 (S0.move rfl) rfl <| ?_  -- guard t12 (wants False) at t13 := move t2 [if #3=False]
  have bad : okA f i = false → ∃ c', Value.tuple ⟨[.int .i64 0, .int .i64 1]⟩ = .tuple ⟨[.int .i64 (addV L f i), .int .i64 (addE f i)]⟩ ∧ IsRT rb (addR L f i) c' ∧ [(rb, cel [v] 69) :: row] = [c'] := fun e => ⟨_, by simp [addV, addE, e], by simpa [addR, e] using hc0, rfl⟩
  skip
  by_cases hF : filtS f = true
  · skip
    refine csFh (t := 12) rfl ((by simp [hF])) ?_
    refine gT rfl <| v0 (S0.move rfl) rfl <| gT rfl <| v0 (S0.cmp rfl rfl rfl) rfl <| v0 (S0.pickF rfl rfl) rfl <| vE <| ?_  -- cond
    first | refine WP.condP rfl (fun hi => ?_) (fun hi => ?_) | refine WP.condN rfl (fun hi => ?_) (fun hi => ?_) | refine WP.cond rfl (fun hi => ?_) (fun hi => ?_)
    · skip
      refine WP.seq <| WP.region <| v0 (S0.assign rfl) rfl <| v0 (S0.assign rfl) rfl <| vE <| WP.ret <| ?_  -- ret
      refine r2 rfl rfl rfl ?_
      exact bad (by simp [okA]; omega)
    · skip
      have hoka : okA f i = true := by simp [okA, hF]; omega
      have haR : addR L f i = addK L f i := by rw [addR, if_pos hoka]
      have haV : Value.tuple ⟨[.int .i64 (hasK L f i + 1), .int .i64 0]⟩ = .tuple ⟨[.int .i64 (addV L f i), .int .i64 (addE f i)]⟩ := by rw [addV, if_pos hoka, addE, if_pos hoka]
      rw [haR, ← haV]
      have hhas := hb.has f i
      have hnn := has_nonneg hok f i
      refine WP.skip <| WP.seq <| WP.seq <| WP.region <| v0 (S0.move rfl) rfl <| v0 (S0.move rfl) rfl <| v0 (S0.move rfl) rfl <| ?_  -- op t19 := call F65{(*rivulet/rivuletref04.Trie).place}(t16, t17, t18)
      refine vcd (S1.callF rfl (hpl) (take1 at0 take0)) rfl ?_
      refine v0 (S0.cmp rfl rfl rfl) rfl <| vE <| ?_  -- cut
      refine WP.cutT (fun s : Asks × Nat × Value × List Blk => IsSl 96 3 s.2.2.1 (s.1.flatMap enK) s.2.2.2 ∧ s.1[s.2.1]? = some (f, i, hasK L f i) ∧ idxP (isK f i) s.1 = (s.2.1 : Int) ∧ s.1.set s.2.1 (f, i, hasK L f i + 1) = addK L f i ∧ s.1.length ≤ L.length + 1) (fun s : Asks × Nat × Value × List Blk => [(0, .pointer (some ⟨rb, 0, none⟩)), (1, sv f), (2, .int .i64 i)]) (fun s : Asks × Nat × Value × List Blk => [(rb, cel [s.2.2.1] 69) :: s.2.2.2]) ?_ (fun s hinv => ?_)
      · skip
        rcases idx_has L f i with ⟨e1, e2, e3⟩ | ⟨k, n, e1, e2, e3⟩
        · have hset : (L ++ [(f, i, 0)]).set L.length (f, i, hasK L f i + 1) = addK L f i := by
            rw [e2, addK, if_pos e2, List.set_append_right _ _ (Nat.le_refl _)]; simp
          have hidx : idxP (isK f i) (L ++ [(f, i, 0)]) = (L.length : Int) := idxP_at (x := (f, i, 0)) (fun j y hj hy => by
            rw [List.getElem?_append_left hj] at hy
            have : ¬ (y.1 = f ∧ y.2.1 = i) := fun h => e3 ⟨y, List.mem_of_getElem? hy, h⟩
            simpa [isK] using this) (by simp) (by simp [isK])
          rw [e1]
          skip
          refine WP.condTh rfl (rfl) ?_
          refine WP.perm (h' := [[(rb, cel [v] 69)], row]) (k := []) (by simp) ?_
          refine WP.region <| v0 (S0.move rfl) rfl <| v0 (S0.move rfl) rfl <| v0 (S0.nilCheck rfl) rfl <| v0 (S0.fieldAddr rfl) rfl <| v0 (S0.load rfl rfl) rfl <| v0 (S0.move rfl) rfl <| v0 (S0.move rfl) rfl <| v0 (S0.build rfl (qs := [(0, _), (1, _)]) rfl) rfl <| vnv (S1.buildSlice rfl (qs := [(0, _)]) rfl rfl) rfl fun b29 => ?_  -- op t30 := append(t25, t29) :[67, 67]
          refine ve (S1.appendL rfl hsl rfl rfl (atS (atS at0)) rfl rfl (by rw [flat_len enK_len]; simp; omega)) rfl ?_
          rintro v2 _ ⟨row2, hs2, rfl⟩
          refine v0 (S0.nilCheck rfl) rfl <| v0 (S0.fieldAddr rfl) rfl <| ?_  -- limit
          refine vs (S1.store rfl rfl hs2.cv) <| ?_
          refine vE <| ?_  -- cutend
          exact ⟨(L ++ [(f, i, 0)], L.length, v2, row2), (by first | exact ⟨by simpa using hs2, by simp [e2], hidx, hset, by simp⟩ | (dsimp only; exact ⟨by simpa using hs2, by simp [e2], hidx, hset, by simp⟩)), ⟨⟨rfl, rfl, rfl, trivial⟩, rfl, rfl⟩, ⟨[[(b29, cel [sv f, .int .i64 i, .int .i64 0] 96)]], (pm fun a_ => by (try simp only [List.flatten_append, List.flatten_cons, List.flatten_nil, List.append_nil, List.cons_append, List.nil_append, List.append_assoc, nOf_app, nOf_cons, nOf_nil, Nat.add_zero, Nat.zero_add, List.map_append, List.map_cons, List.map_nil, cel, sv]); omega)⟩⟩
        · have hset : L.set k (f, i, hasK L f i + 1) = addK L f i := by
            have hne : hasK L f i ≠ 0 := by
              have := hok.pos _ (List.mem_of_getElem? e2)
              simp only at this; omega
            rw [addK, if_neg hne, map_at hok.keys e2 (· + 1), e3]
          have e1' := e1
          rw [e1]
          skip
          refine WP.condFh rfl ((decide_eq_false (by omega))) ?_
          refine WP.skip <| ?_  -- cutend
          exact ⟨(L, k, v, row), (by first | exact ⟨hsl, by rw [e3]; exact e2, e1', hset, by omega⟩ | (dsimp only; exact ⟨hsl, by rw [e3]; exact e2, e1', hset, by omega⟩)), ⟨⟨rfl, rfl, rfl, trivial⟩, rfl, rfl⟩, ⟨_, (take1 at0 take0)⟩⟩
      · skip
        obtain ⟨L1, k, v1, row1⟩ := s
        obtain ⟨h1, h2, h3, h4, h5⟩ := hinv
        dsimp only at h1 h2 h3 h4 h5 ⊢
        have hpl2 := place_spec (rb := rb) ⟨v1, row1, h1, rfl⟩ (by omega) f i
        obtain ⟨a, cap, rfl, hcap, hrow⟩ := IsSl.elems (k := 2) enK_len h1
        have hlt := (List.getElem?_eq_some_iff.1 h2).1
        rcases hrow with ⟨e, -⟩ | ⟨b1, sp1, rfl, rfl, hsp1⟩
        · rw [e] at hlt; simp at hlt
        have hfs := flat_set enK_len sp1 (j := 2) (x := (f, i, hasK L f i)) (y := (f, i, hasK L f i + 1)) (v := .int .i64 (hasK L f i + 1)) (by decide) rfl L1 k h2
        rw [h4] at hfs
        have hlen : L1.length = (addK L f i).length := by rw [← h4]; simp
        have h6 : (addK L f i)[k]? = some (f, i, hasK L f i + 1) := by rw [← h4, List.getElem?_set]; simp [hlt]
        refine WP.seq <| WP.region <| v0 (S0.move rfl) rfl <| v0 (S0.move rfl) rfl <| v0 (S0.move rfl) rfl <| ?_  -- op t36 := call F65{(*rivulet/rivuletref04.Trie).place}(t33, t34, t35)
        refine vcd (S1.callF rfl (hpl2) (take1 at0 take0)) rfl ?_
        rw [h3]
        skip
        refine v0 (S0.assign rfl) rfl <| vE <| WP.seq <| WP.drawP [(0, none), (1, none), (2, none), (3, none), (4, none), (5, none), (6, none), (7, none), (8, none), (9, none), (10, none), (11, none), (12, none), (13, none), (14, none), (15, none), (16, none)] mixed (by kernel_rfl) (by kernel_rfl) (by kernel_rfl) (take1 at0 take0) <| w0 rfl rfl rfl (S0.move rfl) rfl <| w0 rfl rfl rfl (S0.nilCheck rfl) rfl <| w0 rfl rfl rfl (S0.fieldAddr rfl) rfl <| w0 rfl rfl rfl (S0.load rfl rfl) rfl <| w0 rfl rfl rfl (S0.move rfl) rfl <| w0 rfl rfl rfl (S0.move rfl) rfl <| w0 rfl rfl rfl (S0.nilCheck rfl) rfl <| w0 rfl rfl rfl (S0.fieldAddr rfl) rfl <| w0 rfl rfl rfl (S0.load rfl rfl) rfl <| w0 rfl rfl rfl (S0.move rfl) rfl <| ?_  -- op t47 := indexAddr 67 t45 t46
        refine w0 rfl rfl rfl (S0.indexN (k := 3) rfl rfl hlt) rfl <| ?_
        refine w0 rfl rfl rfl (S0.fieldAddr rfl) rfl <| ?_  -- limit
        refine w0 rfl rfl rfl (S0.load (v := .int .i64 (hasK L f i)) rfl (flat_get enK_len sp1 L1 k 2 _ h2 (by decide))) rfl <| ?_
        refine w0 rfl rfl rfl (S0.ari rfl rfl rfl (wrap_i64 (by omega))) rfl <| ?_  -- limit
        refine w0 rfl rfl rfl (S0.indexN (k := 3) rfl rfl hlt) rfl <| ?_
        refine w0 rfl rfl rfl (S0.fieldAddr rfl) rfl <| ?_  -- limit
        refine wlast rfl (by kernel_rfl) rfl rfl (S1.storeI rfl rfl rfl hfs (by rw [List.length_append, flat_len enK_len]; omega)) ?_
        refine WP.seq <| WP.region <| v0 (S0.move rfl) rfl <| v0 (S0.nilCheck rfl) rfl <| v0 (S0.fieldAddr rfl) rfl <| v0 (S0.load rfl rfl) rfl <| v0 (S0.move rfl) rfl <| ?_  -- op t58 := indexAddr 67 t56 t57
        refine v0 (S0.indexN (k := 3) rfl rfl hlt) rfl <| ?_
        refine v0 (S0.fieldAddr rfl) rfl <| ?_  -- limit
        refine v0 (S0.load (v := .int .i64 (hasK L f i + 1)) rfl (flat_get enK_len sp1 (addK L f i) k 2 _ h6 (by decide))) rfl <| ?_
        refine v0 (S0.assign rfl) rfl <| v0 (S0.assign rfl) rfl <| vE <| WP.ret <| ?_  -- ret
        refine r2 rfl rfl rfl ?_
        refine ⟨_, rfl, ⟨_, _, ?_, rfl⟩, rfl⟩
        rw [hlen]
        refine IsSl.row (flat_len enK_len _) ?_ (by omega)
        rw [List.length_append, flat_len enK_len] at hsp1 ⊢
        rw [← hlen]; exact hsp1
  · skip
    refine csTh (t := 12) rfl ((by simp [hF])) ?_
    refine gF rfl rfl <| gF rfl rfl <| v0 (S0.pickT rfl rfl) rfl <| vE <| WP.condT rfl <| WP.seq <| WP.region <| v0 (S0.assign rfl) rfl <| v0 (S0.assign rfl) rfl <| vE <| WP.ret <| ?_  -- ret
    refine r2 rfl rfl rfl ?_
    exact bad (by simp [okA, hF])
end Go.Proofs.YtipljeomgdomnaaGreatDoor
/- R3 -/
namespace Go.Proofs.YtipljeomgdomnaaGreatDoor
open Go

theorem enK_cv (x : Str × Int × Int) : (enK x).all cellV = true := rfl
-- left out: rdrop_spec ((*rivulet/rivuletref04.Trie).Drop)









































































































end Go.Proofs.YtipljeomgdomnaaGreatDoor
/- R4 -/
namespace Go.Proofs.YtipljeomgdomnaaGreatDoor
open Go

theorem insI_at {f : Int} : ∀ {l : List Int} {i : Nat}, i ≤ l.length → (∀ j y, j < i → l[j]? = some y → y < f) → (∀ y, l[i]? = some y → ¬ y < f) → insI l f = if l[i]? = some f then l else l.take i ++ f :: l.drop i
  | [], i, hi, _, _ => by simp at hi; subst hi; simp [insI]
  | x :: l, 0, _, _, h2 => by
    have := h2 x rfl
    simp only [insI, if_neg this, List.getElem?_cons_zero, Option.some.injEq]
    simp
  | x :: l, i + 1, hi, h1, h2 => by
    have h0 := h1 0 x (by omega) rfl
    have ih := insI_at (f := f) (l := l) (i := i) (by simpa using hi) (fun j y hj hy => h1 (j + 1) y (by omega) (by simpa using hy)) (fun y hy => h2 y (by simpa using hy))
    simp only [insI, if_pos h0, ih, List.getElem?_cons_succ]
    split <;> simp
theorem insI_len (l : List Int) (f : Int) : (insI l f).length ≤ l.length + 1 := by
  induction l with
  | nil => simp [insI]
  | cons x l ih =>
    simp only [insI]
    split
    · simp; omega
    · split <;> simp
theorem ints_app (a b : List Int) : ints (a ++ b) = ints a ++ ints b := by simp [ints]
theorem inserti_spec {v : Value} {l : List Int} {row : List Blk} {f : Int} (hs : IsSl 3 1 v (ints l) row) (hl : l.length ≤ 100000) :
    FN Tryz.prog 66 [v, .int .i64 f] [row] (fun u h => ∃ row2, IsSl 3 1 u (ints (insI l f)) row2 ∧ h = [row2]) := by
  have hs' := hs
  obtain ⟨a, cap, rfl, hcap, hrow⟩ := hs'.intsE
  refine FN.intro 49 [(0, .slice a l.length cap), (1, .int .i64 f)] Tryz.func66 rfl (enters Tryz.func66 (by kernel_rfl) rfl) Tryz.ntmps66 rfl rfl ?_
  refine WP.seq <| WP.region <| v0 (S0.assign rfl) rfl <| vE <| WP.seq <| WP.region <| v0 (S0.assign rfl) rfl <| vE <| WP.seq <| WP.block <| ?_  -- Code.loop
  refine WP.loop (fun i : Nat => i ≤ l.length ∧ ∀ j y, j < i → l[j]? = some y → y < f) (fun i : Nat => [(0, .slice a l.length cap), (1, .int .i64 f), (5, .int .i64 (i : Int))]) (fun i : Nat => [row]) (fun i : Nat => l.length - i) (0) (⟨Nat.zero_le _, fun j y hj => by omega⟩) ⟨rfl, rfl, rfl, trivial⟩ ⟨_, (take1 at0 take0)⟩ (fun i hinv => ?_) 
  obtain ⟨hi, hall⟩ := hinv
  -- what is laid behind the search
  have fin : ∀ hins : insI l f = l.take i ++ f :: l.drop i, True := fun _ => trivial
  refine WP.seq <| WP.seq <| WP.region <| v0 (S0.move rfl) rfl <| v0 (S0.move rfl) rfl <| v0 (S0.lenSl rfl) rfl <| v0 (S0.cmp rfl rfl rfl) rfl <| v0 (S0.move rfl) rfl <| ?_  -- guard t11 (wants True) at t12 := move t0 [if #4=True]
  first | refine csP (t := 11) rfl (fun h1 => ?_) (fun h1 => ?_) | refine csN (t := 11) rfl (fun h1 => ?_) (fun h1 => ?_) | refine cs (t := 11) rfl (fun h1 => ?_) (fun h1 => ?_)
  · skip
    have hlt : i < l.length := by omega
    rcases hrow with ⟨e, -⟩ | ⟨b1, sp1, rfl, rfl, hsp1⟩
    · rw [e] at hlt; simp at hlt
    have hg : l[i]? = some l[i] := by simp [hlt]
    generalize l[i] = x at hg
    refine gT rfl <| v0 (S0.move rfl) rfl <| gT rfl <| v0 (S0.move rfl) rfl <| ?_  -- op t14 := indexAddr 40 t12 t13 [if #4=True]
    refine gT rfl <| v0 (S0.index1 rfl rfl hlt) rfl <| ?_
    refine gT rfl <| v0 (S0.load rfl (ints_get hg)) rfl <| ?_
    refine gT rfl <| v0 (S0.move rfl) rfl <| gT rfl <| v0 (S0.cmp rfl rfl rfl) rfl <| v0 (S0.pickT rfl rfl) rfl <| vE <| ?_  -- cond
    first | refine WP.condP rfl (fun h2 => ?_) (fun h2 => ?_) | refine WP.condN rfl (fun h2 => ?_) (fun h2 => ?_) | refine WP.cond rfl (fun h2 => ?_) (fun h2 => ?_)
    · skip
      refine WP.skip <| WP.block <| WP.region <| v0 (S0.move rfl) rfl <| v0 (S0.ari rfl rfl rfl (wrap_i64 (by omega))) rfl <| v0 (S0.assign rfl) rfl <| vE <| ?_  -- roundend
      exact ⟨i + 1, (by first | exact ⟨hlt, below_at (p := fun _ y => y < f) hall hg h2⟩ | (dsimp only; exact ⟨hlt, below_at (p := fun _ y => y < f) hall hg h2⟩)), (by omega), ⟨⟨rfl, rfl, rfl, trivial⟩, rfl, rfl⟩, ⟨_, (take1 at0 take0)⟩⟩
    · skip
      have hins := insI_at (f := f) hi hall (fun y hy => by rw [hg] at hy; cases hy; exact h2)
      rw [hg] at hins
      refine WP.exit <| WP.seq <| WP.seq <| WP.region <| v0 (S0.move rfl) rfl <| v0 (S0.move rfl) rfl <| v0 (S0.lenSl rfl) rfl <| v0 (S0.cmp rfl rfl rfl) rfl <| v0 (S0.move rfl) rfl <| ?_  -- guard t25 (wants True) at t26 := move t0 [if #4=True]
      refine csTh (t := 25) rfl ((by simp; omega)) ?_
      refine gT rfl <| v0 (S0.move rfl) rfl <| gT rfl <| v0 (S0.move rfl) rfl <| ?_  -- op t28 := indexAddr 40 t26 t27 [if #4=True]
      refine gT rfl <| v0 (S0.index1 rfl rfl hlt) rfl <| ?_
      refine gT rfl <| v0 (S0.load rfl (ints_get hg)) rfl <| ?_
      refine gT rfl <| v0 (S0.move rfl) rfl <| gT rfl <| v0 (S0.cmp rfl rfl rfl) rfl <| v0 (S0.pickT rfl rfl) rfl <| vE <| ?_  -- cond
      first | refine WP.condP rfl (fun h3 => ?_) (fun h3 => ?_) | refine WP.condN rfl (fun h3 => ?_) (fun h3 => ?_) | refine WP.cond rfl (fun h3 => ?_) (fun h3 => ?_)
      · skip
        refine WP.seq <| WP.region <| v0 (S0.move rfl) rfl <| v0 (S0.assign rfl) rfl <| vE <| WP.ret <| ?_  -- ret
        refine r1 rfl rfl ?_
        exact ⟨_, by rw [hins, if_pos (by rw [h3])]; exact hs, rfl⟩
      · skip
        rw [if_neg (fun e => h3 (by simpa using e))] at hins
        obtain ⟨-, -, hc1⟩ := hs.rdI.cutG 0 i (Nat.zero_le _) (by omega)
        obtain ⟨-, -, hc2⟩ := hs.rdI.cutG i l.length (by omega) (Nat.le_refl _)
        rw [List.drop_zero, Nat.sub_zero] at hc1
        rw [List.take_of_length_le (by simp)] at hc2
        have hll : (l.take i).length ≤ l.length ∧ (l.drop i).length ≤ l.length := by rw [List.length_take, List.length_drop]; omega
        refine WP.skip <| WP.seq <| WP.region <| vnv (S1.buildSlice rfl (qs := []) rfl rfl) rfl fun b34 => v0 (S0.move rfl) rfl <| v0 (S0.move rfl) rfl <| ?_  -- op t37 := slice 40 t35 none t36 none
        refine v0 (S0.sliceG (i := 0) (j := i) rfl rfl rfl ⟨Nat.zero_le _, by omega⟩) rfl <| ?_
        rw [Nat.sub_zero]
        refine ve (S1.appendR (k := 0) (fun _ => rfl) (fun _ => rfl) rfl (IsSl.row (n := 0) (c := 0) (l := []) (sp := []) rfl rfl (Nat.le_refl _)) rfl hc1 (fun q hq => List.mem_flatten.2 ⟨_, by simp, hq⟩) at0 rfl (by simp; omega)) rfl ?_
        rintro v2 _ ⟨row2, hs2, rfl⟩
        rw [List.nil_append, ← ints_flat] at hs2
        refine v0 (S0.assign rfl) rfl <| vE <| WP.seq <| WP.region <| v0 (S0.move rfl) rfl <| v0 (S0.move rfl) rfl <| vnv (S1.buildSlice rfl (qs := [(0, _)]) rfl rfl) rfl fun b41 => ?_  -- op t42 := append(t39, t41) :[40, 40]
        refine ve (S1.appendL rfl hs2 rfl rfl (atS at0) rfl rfl (by rw [ints_len]; simp; omega)) rfl ?_
        rintro v3 _ ⟨row3, hs3, rfl⟩
        refine v0 (S0.assign rfl) rfl <| vE <| WP.seq <| WP.region <| v0 (S0.move rfl) rfl <| v0 (S0.move rfl) rfl <| v0 (S0.move rfl) rfl <| ?_  -- op t46 := slice 40 t44 t45 none none
        refine v0 (S0.sliceG (i := i) (j := l.length) rfl rfl rfl ⟨by omega, hcap⟩) rfl <| ?_
        refine ve (S1.appendR (k := 0) (fun _ => rfl) (fun _ => rfl) rfl hs3 rfl hc2 (fun q hq => List.mem_flatten.2 ⟨_, by simp, hq⟩) at0 rfl (by rw [List.length_append, ints_len]; simp; omega)) rfl ?_
        rintro v4 _ ⟨row4, hs4, rfl⟩
        rw [← ints_flat] at hs4
        refine v0 (S0.assign rfl) rfl <| vE <| WP.seq <| WP.region <| v0 (S0.move rfl) rfl <| v0 (S0.assign rfl) rfl <| vE <| WP.ret <| ?_  -- ret
        refine Leaves.drop (take1 at0 take0) ?_
        refine r1 rfl rfl ?_
        refine ⟨row4, ?_, rfl⟩
        rw [hins]
        simpa [ints] using hs4
  · skip
    have e : i = l.length := by omega
    subst e
    have hins := insI_at (f := f) (Nat.le_refl _) hall (fun y hy => by simp at hy)
    rw [if_neg (by simp), List.take_length, List.drop_length] at hins
    refine gF rfl rfl <| gF rfl rfl <| gF rfl rfl <| gF rfl rfl <| gF rfl rfl <| gF rfl rfl <| v0 (S0.pickF rfl rfl) rfl <| vE <| WP.condF rfl <| WP.exit <| WP.seq <| WP.seq <| WP.region <| v0 (S0.move rfl) rfl <| v0 (S0.move rfl) rfl <| v0 (S0.lenSl rfl) rfl <| v0 (S0.cmp rfl rfl rfl) rfl <| v0 (S0.move rfl) rfl <| ?_  -- guard t25 (wants True) at t26 := move t0 [if #4=True]
    refine csFh (t := 25) rfl ((by simp)) ?_
    refine gF rfl rfl <| gF rfl rfl <| gF rfl rfl <| gF rfl rfl <| gF rfl rfl <| gF rfl rfl <| v0 (S0.pickF rfl rfl) rfl <| vE <| WP.condF rfl <| WP.skip <| WP.seq <| WP.region <| vnv (S1.buildSlice rfl (qs := []) rfl rfl) rfl fun b34 => v0 (S0.move rfl) rfl <| v0 (S0.move rfl) rfl <| ?_  -- op t37 := slice 40 t35 none t36 none
    obtain ⟨-, -, hc1⟩ := hs.rdI.cutG 0 l.length (Nat.zero_le _) (Nat.le_refl _)
    obtain ⟨-, -, hc2⟩ := hs.rdI.cutG l.length l.length (Nat.le_refl _) (Nat.le_refl _)
    refine v0 (S0.sliceG (i := 0) (j := l.length) rfl rfl rfl ⟨Nat.zero_le _, hcap⟩) rfl <| ?_
    refine ve (S1.appendR (k := 0) (fun _ => rfl) (fun _ => rfl) rfl (IsSl.row (n := 0) (c := 0) (l := []) (sp := []) rfl rfl (Nat.le_refl _)) rfl hc1 (fun q hq => List.mem_flatten.2 ⟨_, by simp, hq⟩) at0 rfl (by simp; omega)) rfl ?_
    rintro v2 _ ⟨row2, hs2, rfl⟩
    rw [List.nil_append, ← ints_flat] at hs2
    refine v0 (S0.assign rfl) rfl <| vE <| WP.seq <| WP.region <| v0 (S0.move rfl) rfl <| v0 (S0.move rfl) rfl <| vnv (S1.buildSlice rfl (qs := [(0, _)]) rfl rfl) rfl fun b41 => ?_  -- op t42 := append(t39, t41) :[40, 40]
    refine ve (S1.appendL rfl hs2 rfl rfl (atS at0) rfl rfl (by rw [ints_len]; simp; omega)) rfl ?_
    rintro v3 _ ⟨row3, hs3, rfl⟩
    refine v0 (S0.assign rfl) rfl <| vE <| WP.seq <| WP.region <| v0 (S0.move rfl) rfl <| v0 (S0.move rfl) rfl <| v0 (S0.move rfl) rfl <| ?_  -- op t46 := slice 40 t44 t45 none none
    refine v0 (S0.sliceG (i := l.length) (j := l.length) rfl rfl rfl ⟨Nat.le_refl _, hcap⟩) rfl <| ?_
    refine ve (S1.appendR (k := 0) (fun _ => rfl) (fun _ => rfl) rfl hs3 rfl hc2 (fun q hq => List.mem_flatten.2 ⟨_, by simp, hq⟩) at0 rfl (by rw [List.length_append, ints_len]; simp; omega)) rfl ?_
    rintro v4 _ ⟨row4, hs4, rfl⟩
    rw [← ints_flat] at hs4
    refine v0 (S0.assign rfl) rfl <| vE <| WP.seq <| WP.region <| v0 (S0.move rfl) rfl <| v0 (S0.assign rfl) rfl <| vE <| WP.ret <| ?_  -- ret
    refine Leaves.drop (take1 at0 take0) ?_
    refine r1 rfl rfl ?_
    refine ⟨row4, ?_, rfl⟩
    rw [hins]
    simpa [ints] using hs4
def idsN (L : Asks) (s : Str) (k : Nat) : List Int := (((L.take k).filter fun x => matchS x.1 s).map (·.2.1)).foldl insI []
theorem idsN_succ {L : Asks} {s : Str} {k : Nat} {x : Str × Int × Int} (hx : L[k]? = some x) : idsN L s (k + 1) = if matchS x.1 s = true then insI (idsN L s k) x.2.1 else idsN L s k := by
  unfold idsN
  rw [take_one hx, List.filter_append]
  by_cases h : matchS x.1 s = true
  · simp [h]
  · simp [h]
theorem idsN_len (L : Asks) (s : Str) (k : Nat) : (idsN L s k).length ≤ L.length := by
  have key : ∀ (l : List Int) (a : List Int), (l.foldl insI a).length ≤ a.length + l.length := by
    intro l
    induction l with
    | nil => intro a; simp
    | cons x l ih =>
      intro a
      have h1 := ih (insI a x)
      have h2 := insI_len a x
      rw [List.foldl_cons, List.length_cons]; omega
  have h1 := key (((L.take k).filter fun x => matchS x.1 s).map (·.2.1)) []
  have h2 := List.length_filter_le (fun x => matchS x.1 s) (L.take k)
  simp only [List.length_map, List.length_nil, List.length_take] at h1 h2
  unfold idsN; omega
theorem rmatch4_spec {rb : Nat} {L : Asks} {c : List Blk} {m : Nat} (hc : IsRT rb L c) (hok : AsksOk L) (hb : AskB L m) (hm : m ≤ 1000) {s : Str} (hs : s.length ≤ 1000) :
    FN Tryz.prog 39 [.pointer (some ⟨rb, 0, none⟩), sv s] [c] (fun v h => ∃ row, IsSl 3 1 v (ints (idsK L s)) row ∧ h = [row, c]) := by
  have hbl := hb.len
  obtain ⟨v, row, hsl, rfl⟩ := hc
  obtain ⟨a, cap, rfl, hcap, hrow⟩ := IsSl.elems (k := 2) enK_len hsl
  refine FN.intro 38 [(0, .pointer (some ⟨rb, 0, none⟩)), (1, sv s)] Tryz.func39 rfl (enters Tryz.func39 (by kernel_rfl) rfl) Tryz.ntmps39 rfl rfl ?_
  refine WP.seq <| WP.region <| v0 (S0.assign rfl) rfl <| vE <| WP.seq <| WP.region <| vnv (S1.buildSlice rfl (qs := []) rfl rfl) rfl fun b7 => v0 (S0.assign rfl) rfl <| vE <| WP.seq <| WP.seq <| WP.region <| v0 (S0.assign rfl) rfl <| vE <| WP.block <| ?_  -- Code.loop
  refine WP.loop (fun st : Nat × Value × List Blk => st.1 ≤ L.length ∧ IsSl 3 1 st.2.1 (ints (idsN L s st.1)) st.2.2) (fun st : Nat × Value × List Blk => [(0, .pointer (some ⟨rb, 0, none⟩)), (1, sv s), (5, st.2.1), (6, .int .i64 (st.1 : Int))]) (fun st : Nat × Value × List Blk => [st.2.2, (rb, cel [.slice a L.length cap] 69) :: row]) (fun st : Nat × Value × List Blk => L.length - st.1) ((0, _, [(b7, .cells ⟨[]⟩ 3 (0, 0))])) (⟨Nat.zero_le _, IsSl.row (n := 0) (c := 0) (l := []) (sp := []) rfl rfl (Nat.le_refl _)⟩) ⟨rfl, rfl, rfl, rfl, trivial⟩ ⟨_, (take1 at0 (take1 at0 take0))⟩ (fun st hinv => ?_) 
  obtain ⟨k, ov, orow⟩ := st
  obtain ⟨hk, hos⟩ := hinv
  dsimp only at hk hos ⊢
  have hil := idsN_len L s k
  refine WP.seq <| WP.seq <| WP.region <| v0 (S0.move rfl) rfl <| v0 (S0.move rfl) rfl <| v0 (S0.nilCheck rfl) rfl <| v0 (S0.fieldAddr rfl) rfl <| v0 (S0.load rfl rfl) rfl <| v0 (S0.lenSl rfl) rfl <| v0 (S0.cmp rfl rfl rfl) rfl <| vE <| ?_  -- cond
  first | refine WP.condP rfl (fun h1 => ?_) (fun h1 => ?_) | refine WP.condN rfl (fun h1 => ?_) (fun h1 => ?_) | refine WP.cond rfl (fun h1 => ?_) (fun h1 => ?_)
  · skip
    have hlt : k < L.length := by omega
    rcases hrow with ⟨e, -⟩ | ⟨b1, sp1, rfl, rfl, hsp1⟩
    · rw [e] at hlt; simp at hlt
    have hx : L[k]? = some L[k] := by simp [hlt]
    have hxl := filt_len (hok.filt _ (List.getElem_mem hlt)).1
    generalize L[k] = x at hx hxl
    have hsucc := idsN_succ (s := s) hx
    refine WP.skip <| WP.seq <| WP.block <| WP.seq <| WP.region <| v0 (S0.move rfl) rfl <| v0 (S0.nilCheck rfl) rfl <| v0 (S0.fieldAddr rfl) rfl <| v0 (S0.load rfl rfl) rfl <| v0 (S0.move rfl) rfl <| ?_  -- op t22 := indexAddr 67 t20 t21
    refine v0 (S0.indexN (k := 3) rfl rfl hlt) rfl <| ?_
    refine v0 (S0.fieldAddr rfl) rfl <| ?_  -- limit
    refine v0 (S0.load rfl (flat_get enK_len sp1 L k 0 x hx (by decide))) rfl <| ?_
    refine v0 (S0.move rfl) rfl <| ?_  -- op t26 := call F43{rivulet/rivuletref03.Match}(t24, t25)
    refine vcd (S1.callF rfl (rmatch_spec (show x.1.length ≤ 800000 by omega) (show s.length ≤ 800000 by omega)) take0) rfl ?_
    refine vE <| ?_  -- cond
    first | refine WP.condP rfl (fun h2 => ?_) (fun h2 => ?_) | refine WP.condN rfl (fun h2 => ?_) (fun h2 => ?_) | refine WP.cond rfl (fun h2 => ?_) (fun h2 => ?_)
    · skip
      rw [if_pos h2] at hsucc
      refine WP.region <| v0 (S0.move rfl) rfl <| v0 (S0.move rfl) rfl <| v0 (S0.nilCheck rfl) rfl <| v0 (S0.fieldAddr rfl) rfl <| v0 (S0.load rfl rfl) rfl <| v0 (S0.move rfl) rfl <| ?_  -- op t33 := indexAddr 67 t31 t32
      refine v0 (S0.indexN (k := 3) rfl rfl hlt) rfl <| ?_
      refine v0 (S0.fieldAddr rfl) rfl <| ?_  -- limit
      refine v0 (S0.load rfl (flat_get enK_len sp1 L k 1 x hx (by decide))) rfl <| ?_
      -- (nothing to walk: op t36 := call F66{rivulet/rivuletref04.insert}(t27, t35))
      refine vc (S1.callF rfl (inserti_spec hos (by omega)) (take1 at0 take0)) rfl ?_
      rintro v2 _ ⟨row2, hs2, rfl⟩
      refine app ?_
      rw [← hsucc] at hs2
      refine v0 (S0.assign rfl) rfl <| vE <| WP.region <| v0 (S0.move rfl) rfl <| v0 (S0.ari rfl rfl rfl (wrap_i64 (by omega))) rfl <| v0 (S0.assign rfl) rfl <| vE <| ?_  -- roundend
      exact ⟨(k + 1, v2, row2), (by first | exact ⟨hlt, hs2⟩ | (dsimp only; exact ⟨hlt, hs2⟩)), (show L.length - (k + 1) < L.length - k by omega), ⟨⟨rfl, rfl, rfl, rfl, trivial⟩, rfl, rfl⟩, ⟨_, (take1 at0 (take1 at0 take0))⟩⟩
    · skip
      rw [if_neg (by simp [h2])] at hsucc
      refine WP.skip <| WP.region <| v0 (S0.move rfl) rfl <| v0 (S0.ari rfl rfl rfl (wrap_i64 (by omega))) rfl <| v0 (S0.assign rfl) rfl <| vE <| ?_  -- roundend
      exact ⟨(k + 1, ov, orow), (by first | exact ⟨hlt, by rw [hsucc]; exact hos⟩ | (dsimp only; exact ⟨hlt, by rw [hsucc]; exact hos⟩)), (show L.length - (k + 1) < L.length - k by omega), ⟨⟨rfl, rfl, rfl, rfl, trivial⟩, rfl, rfl⟩, ⟨_, (take1 at0 (take1 at0 take0))⟩⟩
  · skip
    have e : k = L.length := by omega
    refine WP.exit <| WP.seq <| WP.region <| v0 (S0.move rfl) rfl <| v0 (S0.assign rfl) rfl <| vE <| WP.ret <| ?_  -- ret
    refine r1 rfl rfl ?_
    exact ⟨orow, by rw [show idsK L s = idsN L s k by rw [e]; simp [idsK, idsN]]; exact hos, rfl⟩
end Go.Proofs.YtipljeomgdomnaaGreatDoor
/- RefA -/
namespace Go.Proofs.YtipljeomgdomnaaGreatDoor
open Go

theorem rclean_spec {v : Value} {l : List Str} {c : List Blk} (hr : RdS v l c) (hx : ∀ x ∈ l, x.length ≤ 1000) (hl : l.length ≤ 1000) : FN Tryz.prog 32 [v] [c] (fun u h => ∃ row, IsSl 9 1 u (strs (cleanS l)) row ∧ h = [row, c]) := by
  obtain ⟨a, cap, rfl, hcap, hr⟩ := hr
  refine FN.intro 24 [(0, .slice a l.length cap)] Tryz.func32 rfl (enters Tryz.func32 (by kernel_rfl) rfl) Tryz.ntmps32 rfl rfl ?_
  refine WP.seq <| WP.region <| v0 (S0.assign rfl) rfl <| vE <| WP.seq <| WP.region <| vnv (S1.buildSlice rfl (qs := []) rfl rfl) rfl fun b5 => v0 (S0.assign rfl) rfl <| vE <| WP.seq <| WP.seq <| WP.region <| v0 (S0.assign rfl) rfl <| vE <| WP.block <| ?_  -- Code.loop
  refine WP.loop (fun st : Nat × Value × List Blk => st.1 ≤ l.length ∧ IsSl 9 1 st.2.1 (strs (cleanS (l.take st.1))) st.2.2) (fun st : Nat × Value × List Blk => [(0, .slice a l.length cap), (3, st.2.1), (4, .int .i64 (st.1 : Int))]) (fun st : Nat × Value × List Blk => [st.2.2, c]) (fun st : Nat × Value × List Blk => l.length - st.1) ((0, _, [(b5, .cells ⟨[]⟩ 9 (0, 0))])) (⟨Nat.zero_le _, IsSl.row (n := 0) (c := 0) (l := []) (sp := []) rfl rfl (Nat.le_refl _)⟩) ⟨rfl, rfl, rfl, trivial⟩ ⟨_, (take1 at0 (take1 at0 take0))⟩ (fun st hinv => ?_) 
  obtain ⟨i, ov, row⟩ := st
  obtain ⟨hi, hsl⟩ := hinv
  dsimp only at hi hsl ⊢
  refine WP.seq <| WP.seq <| WP.region <| v0 (S0.move rfl) rfl <| v0 (S0.move rfl) rfl <| v0 (S0.lenSl rfl) rfl <| v0 (S0.cmp rfl rfl rfl) rfl <| vE <| ?_  -- cond
  first | refine WP.condP rfl (fun h1 => ?_) (fun h1 => ?_) | refine WP.condN rfl (fun h1 => ?_) (fun h1 => ?_) | refine WP.cond rfl (fun h1 => ?_) (fun h1 => ?_)
  · skip
    have hlt : i < l.length := by omega
    rcases hr with e | ⟨b1, o1, L1, U1, fz1, rfl, hm1, he1⟩
    · rw [e] at hlt; simp at hlt
    have : HasC c b1 (.cells ⟨L1⟩ U1 fz1) := ⟨hm1⟩
    have hg : l[i]? = some l[i] := by simp [hlt]
    have hxl := hx _ (List.getElem_mem hlt)
    generalize l[i] = x at hg hxl
    have hxe := he1 i x hg
    have htk : l.take (i + 1) = l.take i ++ [x] := by rw [List.take_add_one, hg]; rfl
    have hcl := clean_len (l.take i)
    have htl : (l.take i).length ≤ l.length := by rw [List.length_take]; omega
    skip
    refine WP.skip <| WP.seq <| WP.block <| WP.seq <| WP.region <| v0 (S0.move rfl) rfl <| v0 (S0.move rfl) rfl <| ?_  -- op t14 := indexAddr 23 t12 t13
    refine v0 (S0.indexO1 rfl rfl hlt) rfl <| ?_
    refine v0 (S0.load rfl (rdS_get hxe)) rfl <| ?_
    -- (nothing to walk: op t16 := call F27{rivulet/rivuletref03.Filter}(t15))
    refine vcd (S1.callF rfl (rfilter_spec (show x.length ≤ 900000 by omega)) take0) rfl ?_
    refine vE <| ?_  -- cond
    first | refine WP.condP rfl (fun h2 => ?_) (fun h2 => ?_) | refine WP.condN rfl (fun h2 => ?_) (fun h2 => ?_) | refine WP.cond rfl (fun h2 => ?_) (fun h2 => ?_)
    · skip
      refine WP.region <| v0 (S0.move rfl) rfl <| v0 (S0.move rfl) rfl <| v0 (S0.move rfl) rfl <| ?_  -- op t20 := indexAddr 23 t18 t19
      refine v0 (S0.indexO1 rfl rfl hlt) rfl <| ?_
      refine v0 (S0.load rfl (rdS_get hxe)) rfl <| ?_
      -- (nothing to walk: op t22 := call F53{rivulet/rivuletref04.Insert}(t17, t21))
      refine vc (S1.callF rfl (rinsert_spec hsl (by omega) (fun y hy => hx y (List.mem_of_mem_take (mem_clean.1 hy).1)) (by omega)) (take1 at0 take0)) rfl ?_
      rintro v2 _ ⟨row2, hsl2, rfl⟩
      refine app ?_
      refine v0 (S0.assign rfl) rfl <| vE <| WP.region <| v0 (S0.move rfl) rfl <| v0 (S0.ari rfl rfl rfl (wrap_i64 (by omega))) rfl <| v0 (S0.assign rfl) rfl <| vE <| ?_  -- roundend
      exact ⟨(i + 1, v2, row2), (by first | exact ⟨hlt, by rw [htk, clean_snoc, if_pos h2]; exact hsl2⟩ | (dsimp only; exact ⟨hlt, by rw [htk, clean_snoc, if_pos h2]; exact hsl2⟩)), (show l.length - (i + 1) < l.length - i by omega), ⟨⟨rfl, rfl, rfl, trivial⟩, rfl, rfl⟩, ⟨_, (take1 at0 (take1 at0 take0))⟩⟩
    · skip
      refine WP.skip <| WP.region <| v0 (S0.move rfl) rfl <| v0 (S0.ari rfl rfl rfl (wrap_i64 (by omega))) rfl <| v0 (S0.assign rfl) rfl <| vE <| ?_  -- roundend
      exact ⟨(i + 1, ov, row), (by first | exact ⟨hlt, by rw [htk, clean_snoc, if_neg (by simpa using h2)]; exact hsl⟩ | (dsimp only; exact ⟨hlt, by rw [htk, clean_snoc, if_neg (by simpa using h2)]; exact hsl⟩)), (show l.length - (i + 1) < l.length - i by omega), ⟨⟨rfl, rfl, rfl, trivial⟩, rfl, rfl⟩, ⟨_, (take1 at0 (take1 at0 take0))⟩⟩
  · skip
    have e : i = l.length := by omega
    subst e
    rw [List.take_length] at hsl
    refine WP.exit <| WP.seq <| WP.region <| v0 (S0.move rfl) rfl <| v0 (S0.assign rfl) rfl <| vE <| WP.ret <| ?_  -- ret
    refine r1 rfl rfl ?_
    exact ⟨row, hsl, rfl⟩
theorem rlets_spec {v : Value} {l : List Str} {c : List Blk} {t : Str} (hr : RdS v l c) (hx : ∀ x ∈ l, x.length ≤ 1000) (ht : t.length ≤ 1000) (hl : l.length ≤ 1000) : FN Tryz.prog 26 [v, sv t] [c] (is (.bool (letsS l t)) [c]) := by
  obtain ⟨a, cap, rfl, hcap, hr⟩ := hr
  refine FN.intro 18 [(0, .slice a l.length cap), (1, sv t)] Tryz.func26 rfl (enters Tryz.func26 (by kernel_rfl) rfl) Tryz.ntmps26 rfl rfl ?_
  refine WP.seq <| WP.region <| v0 (S0.assign rfl) rfl <| vE <| WP.seq <| WP.seq <| WP.region <| v0 (S0.assign rfl) rfl <| vE <| WP.block <| ?_  -- Code.loop
  refine WP.loop (fun i : Nat => i ≤ l.length ∧ ∀ j y, j < i → l[j]? = some y → matchS y t = false) (fun i : Nat => [(0, .slice a l.length cap), (1, sv t), (5, .int .i64 (i : Int))]) (fun i : Nat => [c]) (fun i : Nat => l.length - i) (0) (⟨Nat.zero_le _, fun j y hj => by omega⟩) ⟨rfl, rfl, rfl, trivial⟩ ⟨_, (take1 at0 take0)⟩ (fun i hinv => ?_) 
  obtain ⟨hi, hno⟩ := hinv
  refine WP.seq <| WP.seq <| WP.region <| v0 (S0.move rfl) rfl <| v0 (S0.move rfl) rfl <| v0 (S0.lenSl rfl) rfl <| v0 (S0.cmp rfl rfl rfl) rfl <| vE <| ?_  -- cond
  first | refine WP.condP rfl (fun h1 => ?_) (fun h1 => ?_) | refine WP.condN rfl (fun h1 => ?_) (fun h1 => ?_) | refine WP.cond rfl (fun h1 => ?_) (fun h1 => ?_)
  · skip
    have hlt : i < l.length := by omega
    rcases hr with e | ⟨b1, o1, L1, U1, fz1, rfl, hm1, he1⟩
    · rw [e] at hlt; simp at hlt
    have : HasC c b1 (.cells ⟨L1⟩ U1 fz1) := ⟨hm1⟩
    have hg : l[i]? = some l[i] := by simp [hlt]
    have hxl := hx _ (List.getElem_mem hlt)
    generalize l[i] = x at hg hxl
    have hxe := he1 i x hg
    skip
    refine WP.skip <| WP.seq <| WP.block <| WP.seq <| WP.region <| v0 (S0.move rfl) rfl <| v0 (S0.move rfl) rfl <| ?_  -- op t14 := indexAddr 23 t12 t13
    refine v0 (S0.indexO1 rfl rfl hlt) rfl <| ?_
    refine v0 (S0.load rfl (rdS_get hxe)) rfl <| ?_
    refine v0 (S0.move rfl) rfl <| ?_  -- op t17 := call F43{rivulet/rivuletref03.Match}(t15, t16)
    refine vcd (S1.callF rfl (rmatch_spec (show x.length ≤ 800000 by omega) (show t.length ≤ 800000 by omega)) take0) rfl ?_
    refine vE <| ?_  -- cond
    first | refine WP.condP rfl (fun h2 => ?_) (fun h2 => ?_) | refine WP.condN rfl (fun h2 => ?_) (fun h2 => ?_) | refine WP.cond rfl (fun h2 => ?_) (fun h2 => ?_)
    · skip
      refine WP.seq <| WP.region <| v0 (S0.assign rfl) rfl <| vE <| WP.ret <| ?_  -- ret
      refine r1 rfl rfl ⟨?_, rfl⟩
      exact congrArg Value.bool (show letsS l t = true from List.any_eq_true.2 ⟨x, List.mem_of_getElem? hg, h2⟩).symm
    · skip
      refine WP.skip <| WP.region <| v0 (S0.move rfl) rfl <| v0 (S0.ari rfl rfl rfl (wrap_i64 (by omega))) rfl <| v0 (S0.assign rfl) rfl <| vE <| ?_  -- roundend
      exact ⟨i + 1, (by first | exact ⟨hlt, below_at (p := fun _ y => matchS y t = false) hno hg (by simpa using h2)⟩ | (dsimp only; exact ⟨hlt, below_at (p := fun _ y => matchS y t = false) hno hg (by simpa using h2)⟩)), (by omega), ⟨⟨rfl, rfl, rfl, trivial⟩, rfl, rfl⟩, ⟨_, (take1 at0 take0)⟩⟩
  · skip
    refine WP.exit <| WP.seq <| WP.region <| v0 (S0.assign rfl) rfl <| vE <| WP.ret <| ?_  -- ret
    refine r1 rfl rfl ⟨?_, rfl⟩
    exact congrArg Value.bool (show letsS l t = false from any_upto fun j y hj hy => hno j y (by omega) hy).symm
end Go.Proofs.YtipljeomgdomnaaGreatDoor
/- RefB -/
namespace Go.Proofs.YtipljeomgdomnaaGreatDoor
open Go

/-- at rows of one length -/
def okAt (A B : List Str) (n : Nat) : Bool := !(rowL B n).2 || ((rowL A n).2 && rowOk (rowL A n).1 (rowL B n).1)
theorem covX_at {A B : List Str} (ha : filtL A = true) (hb : filtL B = true) (hna : A ≠ []) (hnb : B ≠ []) : CovX 1 8 A B ↔ ∀ n, 1 ≤ n → n ≤ 8 → okAt A B n = true := by
  constructor
  · intro h n h1 h8
    unfold okAt
    cases hq : (rowL B n).2 with
    | false => rfl
    | true =>
      obtain ⟨x, hx, ho⟩ := h n (rowL B n).1 h1 h8 (by rw [rowO_row _ _ hb hnb, hq]; rfl)
      rw [rowO_row _ _ ha hna] at hx
      split at hx
      · rename_i h2; simp at hx; subst hx; simp [h2, ho]
      · cases hx
  · intro h n y h1 h8 hy
    have := h n h1 h8
    unfold okAt at this
    rw [rowO_row _ _ hb hnb] at hy
    split at hy
    · rename_i h2
      simp at hy; subst hy
      simp only [h2, Bool.not_true, Bool.false_or, Bool.and_eq_true] at this
      exact ⟨_, by rw [rowO_row _ _ ha hna, this.1]; rfl, this.2⟩
    · cases hy
theorem rcovers_spec {a b : Str} (ha : a.length ≤ 100000) (hb : b.length ≤ 100000) : FN Tryz.prog 54 [sv a, sv b] [] (is (.bool (coversS a b)) []) := by
  refine FN.intro 67 [(0, sv a), (1, sv b)] Tryz.func54 rfl (enters Tryz.func54 (by kernel_rfl) rfl) Tryz.ntmps54 rfl rfl ?_
  refine WP.seq <| WP.region <| v0 (S0.assign rfl) rfl <| vE <| WP.seq <| WP.seq <| WP.region <| v0 (S0.move rfl) rfl <| ?_  -- op t12 := call F27{rivulet/rivuletref03.Filter}(t11)
  refine vcd (S1.callF rfl (rfilter_spec (show a.length ≤ 900000 by omega)) take0) rfl ?_
  refine v0 (S0.not rfl) rfl <| v0 (S0.move rfl) rfl <| ?_  -- guard t14 (wants False) at t15 := move t1 [if #3=False]
  first | refine csP (t := 14) rfl (fun h1 => ?_) (fun h1 => ?_) | refine csN (t := 14) rfl (fun h1 => ?_) (fun h1 => ?_) | refine cs (t := 14) rfl (fun h1 => ?_) (fun h1 => ?_)
  · skip
    have h1' : filtS a = false := by simpa using h1
    refine gF rfl rfl <| gF rfl rfl <| gF rfl rfl <| v0 (S0.pickT rfl rfl) rfl <| vE <| WP.condT rfl <| WP.seq <| WP.region <| v0 (S0.assign rfl) rfl <| vE <| WP.ret <| ?_  -- ret
    refine r1 rfl rfl ⟨?_, rfl⟩
    simp [coversS, h1']
  · skip
    have hfa : filtS a = true := by simpa using h1
    refine gT rfl <| v0 (S0.move rfl) rfl <| ?_  -- op t16 := call F27{rivulet/rivuletref03.Filter}(t15) [if #3=False]
    refine gT rfl <| vcd (S1.callF rfl (rfilter_spec (show b.length ≤ 900000 by omega)) take0) rfl ?_
    refine gT rfl <| v0 (S0.not rfl) rfl <| v0 (S0.pickF rfl rfl) rfl <| vE <| ?_  -- cond
    first | refine WP.condP rfl (fun h2 => ?_) (fun h2 => ?_) | refine WP.condN rfl (fun h2 => ?_) (fun h2 => ?_) | refine WP.cond rfl (fun h2 => ?_) (fun h2 => ?_)
    · skip
      have h2' : filtS b = false := by simpa using h2
      refine WP.seq <| WP.region <| v0 (S0.assign rfl) rfl <| vE <| WP.ret <| ?_  -- ret
      refine r1 rfl rfl ⟨?_, rfl⟩
      simp [coversS, h2']
    · skip
      have hfb : filtS b = true := by simpa using h2
      have hiff := (coversS_iff hfa hfb).trans (covX_at (filtS_L hfa).2 (filtS_L hfb).2 (levels_ne a) (levels_ne b))
      refine WP.skip <| WP.seq <| WP.seq <| WP.region <| v0 (S0.assign rfl) rfl <| vE <| WP.block <| ?_  -- Code.loop
      refine WP.loop (fun n : Nat => 1 ≤ n ∧ n ≤ 9 ∧ ∀ m, 1 ≤ m → m < n → okAt (levels a) (levels b) m = true) (fun n : Nat => [(0, sv a), (1, sv b), (5, .int .i64 (n : Int))]) (fun n : Nat => []) (fun n : Nat => 9 - n) (1) (⟨by omega, by omega, fun m h h' => by omega⟩) ⟨rfl, rfl, rfl, trivial⟩ ⟨_, take0⟩ (fun n hinv => ?_) 
      obtain ⟨hn1, hn9, hall⟩ := hinv
      refine WP.seq <| WP.seq <| WP.region <| v0 (S0.move rfl) rfl <| v0 (S0.cmp rfl rfl rfl) rfl <| vE <| ?_  -- cond
      first | refine WP.condP rfl (fun h3 => ?_) (fun h3 => ?_) | refine WP.condN rfl (fun h3 => ?_) (fun h3 => ?_) | refine WP.cond rfl (fun h3 => ?_) (fun h3 => ?_)
      · skip
        have hn8 : n ≤ 8 := by omega
        have hbadn : okAt (levels a) (levels b) n = false → false = coversS a b := fun e => by
          cases hc : coversS a b with
          | false => rfl
          | true => have := hiff.1 hc n hn1 hn8; rw [e] at this; cases this
        have hgoodn : okAt (levels a) (levels b) n = true → ∀ m, 1 ≤ m → m < n + 1 → okAt (levels a) (levels b) m = true := fun e m hm1 hm2 => by
          by_cases em : m = n
          · subst em; exact e
          · exact hall m hm1 (by omega)
        have hla := rowL_len (l := levels a) (n := n)
        have hlb := rowL_len (l := levels b) (n := n)
        unfold okAt at hbadn hgoodn
        refine WP.skip <| WP.seq <| WP.block <| WP.seq <| WP.region <| v0 (S0.move rfl) rfl <| v0 (S0.move rfl) rfl <| ?_  -- op t26 := call F74{rivulet/rivuletref03.Row}(t24, t25)
        refine vc (S1.callF rfl (rrow_spec (n := n) (show b.length ≤ 900000 by omega) (by omega)) take0) rfl ?_
        rintro _ _ ⟨yv, yr, hsy, rfl, rfl⟩
        refine app ?_
        refine v0 (S0.move rfl) rfl <| v0 (S0.extract rfl rfl) rfl <| v0 (S0.extract rfl rfl) rfl <| v0 (S0.assign rfl) rfl <| v0 (S0.assign rfl) rfl <| vE <| WP.seq <| WP.region <| v0 (S0.move rfl) rfl <| v0 (S0.move rfl) rfl <| ?_  -- op t32 := call F74{rivulet/rivuletref03.Row}(t30, t31)
        refine vc (S1.callF rfl (rrow_spec (n := n) (show a.length ≤ 900000 by omega) (by omega)) take0) rfl ?_
        rintro _ _ ⟨xv, xr, hsx, rfl, rfl⟩
        refine app ?_
        generalize (rowL (levels b) n).2 = some_ at hlb hbadn hgoodn
        generalize (rowL (levels b) n).1 = Y at hlb hbadn hgoodn hsy
        generalize (rowL (levels a) n).2 = q at hla hbadn hgoodn
        generalize (rowL (levels a) n).1 = X at hla hbadn hgoodn hsx
        obtain ⟨xa, xc, rfl, -, hrx⟩ := hsx.strsE
        obtain ⟨ya, yc, rfl, -, hry⟩ := hsy.strsE
        refine v0 (S0.move rfl) rfl <| v0 (S0.extract rfl rfl) rfl <| v0 (S0.extract rfl rfl) rfl <| v0 (S0.assign rfl) rfl <| v0 (S0.assign rfl) rfl <| vE <| WP.seq <| WP.seq <| WP.region <| v0 (S0.assign rfl) rfl <| vE <| WP.block <| ?_  -- Code.loop
        refine WP.loop (fun st : Nat × Bool => st.1 ≤ n ∧ (st.2 = true → q = true ∧ (some_ = true → ∀ j x y, j < st.1 → X[j]? = some x → Y[j]? = some y → (decide (x = [43]) || decide (x = y)) = true)) ∧ (st.2 = false → some_ = true → (q && rowOk X Y) = false)) (fun st : Nat × Bool => [(0, sv a), (1, sv b), (5, .int .i64 (n : Int)), (6, .slice ya Y.length yc), (7, .bool some_), (8, .slice xa X.length xc), (9, .bool st.2), (10, .int .i64 (st.1 : Int))]) (fun st : Nat × Bool => [xr, yr]) (fun st : Nat × Bool => n - st.1) ((0, q)) (⟨Nat.zero_le _, fun e => ⟨e, fun _ j x y hj => by omega⟩, fun e _ => by simp at e; simp [e]⟩) ⟨rfl, rfl, rfl, rfl, rfl, rfl, rfl, rfl, trivial⟩ ⟨_, (take1 at0 (take1 at0 take0))⟩ (fun st hinv => ?_) 
        obtain ⟨i, is_⟩ := st
        obtain ⟨hi, htr, hfa2⟩ := hinv
        dsimp only at hi htr hfa2 ⊢
        refine WP.seq <| WP.seq <| WP.region <| v0 (S0.move rfl) rfl <| v0 (S0.move rfl) rfl <| v0 (S0.cmp rfl rfl rfl) rfl <| v0 (S0.move rfl) rfl <| ?_  -- guard t38 (wants True) at t39 := move t7 [if #3=True]
        first | refine csP (t := 38) rfl (fun h4 => ?_) (fun h4 => ?_) | refine csN (t := 38) rfl (fun h4 => ?_) (fun h4 => ?_) | refine cs (t := 38) rfl (fun h4 => ?_) (fun h4 => ?_)
        · skip
          have hlt : i < n := by omega
          refine gT rfl <| v0 (S0.move rfl) rfl <| v0 (S0.pickT rfl rfl) rfl <| v0 (S0.move rfl) rfl <| ?_  -- guard t41 (wants True) at t42 := move t9 [if #6=True]
          skip
          cases some_ with
          | true =>
            skip
            refine csTh (t := 41) rfl (rfl) ?_
            refine gT rfl <| v0 (S0.move rfl) rfl <| v0 (S0.pickT rfl rfl) rfl <| vE <| ?_  -- cond
            skip
            cases is_ with
            | true =>
              skip
              obtain ⟨rfl, hok⟩ := htr rfl
              have hXl := hla rfl
              have hYl := hlb rfl
              have hlx : i < X.length := by omega
              have hly : i < Y.length := by omega
              rcases hrx with ⟨e, -⟩ | ⟨b1, sp1, rfl, rfl, hsp1⟩
              · rw [e] at hlx; simp at hlx
              rcases hry with ⟨e, -⟩ | ⟨b2, sp2, rfl, rfl, hsp2⟩
              · rw [e] at hly; simp at hly
              have hx : X[i]? = some X[i] := by simp [hlx]
              have hy : Y[i]? = some Y[i] := by simp [hly]
              generalize X[i] = x at hx
              generalize Y[i] = y at hy
              have hbad : (decide (x = [43]) || decide (x = y)) = false → (true && rowOk X Y) = false := fun e => by rw [rowOk_take X _ i x y hx hy e]; rfl
              have hgood : (decide (x = [43]) || decide (x = y)) = true → ∀ (j : Nat) (x y : Str), j < i + 1 → X[j]? = some x → Y[j]? = some y → (decide (x = [43]) || decide (x = y)) = true := fun e j x' y' hj hx' hy' => by
                by_cases ej : j = i
                · subst ej; rw [hx] at hx'; rw [hy] at hy'; cases hx'; cases hy'; exact e
                · exact hok rfl j x' y' (by omega) hx' hy'
              refine WP.condTh rfl (rfl) ?_
              skip
              refine WP.skip <| WP.seq <| WP.block <| WP.drawP [(0, none), (1, none), (2, none), (3, none), (4, none), (5, none), (6, none), (7, none), (8, none), (9, none), (10, none), (11, none), (12, none), (13, none), (14, none), (15, none), (16, none)] mixed (by kernel_rfl) (by kernel_rfl) (by kernel_rfl) (take1 at0 (take1 at0 take0)) <| w0 rfl rfl rfl (S0.move rfl) rfl <| w0 rfl rfl rfl (S0.move rfl) rfl <| ?_  -- op t48 := indexAddr 23 t46 t47
              refine w0 rfl rfl rfl (S0.index1 rfl rfl hlx) rfl <| ?_
              refine w0 rfl rfl rfl (S0.load rfl (strs_get hx)) rfl <| ?_
              refine w0 rfl rfl rfl (S0.cmpS rfl rfl rfl) rfl <| w0 rfl rfl rfl (S0.move rfl) rfl <| ?_  -- guard t51 (wants False) at t52 := move t8 [if #5=False]
              first | refine wcsP (t := 51) rfl (fun h5 => ?_) (fun h5 => ?_) | refine wcsN (t := 51) rfl (fun h5 => ?_) (fun h5 => ?_) | refine wcs (t := 51) rfl (fun h5 => ?_) (fun h5 => ?_)
              · skip
                refine wF rfl rfl rfl rfl <| wF rfl rfl rfl rfl <| wF rfl rfl rfl rfl <| wF rfl rfl rfl rfl <| wF rfl rfl rfl rfl <| wF rfl rfl rfl rfl <| wF rfl rfl rfl rfl <| wF rfl rfl rfl rfl <| wF rfl rfl rfl rfl <| w0 rfl rfl rfl (S0.pickT rfl rfl) rfl <| w0 rfl rfl rfl (S0.assign rfl) rfl <| wE <| WP.region <| v0 (S0.move rfl) rfl <| v0 (S0.ari rfl rfl rfl (wrap_i64 (by omega))) rfl <| v0 (S0.assign rfl) rfl <| vE <| ?_  -- roundend
                exact ⟨(i + 1, true), (by first | exact ⟨hlt, fun _ => ⟨rfl, fun _ => hgood (by simp [h5])⟩, fun e => by cases e⟩ | (dsimp only; exact ⟨hlt, fun _ => ⟨rfl, fun _ => hgood (by simp [h5])⟩, fun e => by cases e⟩)), (show n - (i + 1) < n - i by omega), ⟨⟨rfl, rfl, rfl, rfl, rfl, rfl, rfl, rfl, trivial⟩, rfl, rfl⟩, ⟨_, (take1 at0 (take1 at0 take0))⟩⟩
              · skip
                refine w0 rfl rfl rfl (S0.move rfl) rfl <| w0 rfl rfl rfl (S0.move rfl) rfl <| ?_  -- op t54 := indexAddr 23 t52 t53 [if #5=False]
                refine w0 rfl rfl rfl (S0.index1 rfl rfl hlx) rfl <| ?_
                refine w0 rfl rfl rfl (S0.load rfl (strs_get hx)) rfl <| ?_
                refine w0 rfl rfl rfl (S0.move rfl) rfl <| w0 rfl rfl rfl (S0.move rfl) rfl <| ?_  -- op t58 := indexAddr 23 t56 t57 [if #5=False]
                refine w0 rfl rfl rfl (S0.index1 rfl rfl hly) rfl <| ?_
                refine w0 rfl rfl rfl (S0.load rfl (strs_get hy)) rfl <| ?_
                refine w0 rfl rfl rfl (S0.cmpS rfl rfl rfl) rfl <| w0 rfl rfl rfl (S0.pickF rfl rfl) rfl <| w0 rfl rfl rfl (S0.assign rfl) rfl <| wE <| WP.region <| v0 (S0.move rfl) rfl <| v0 (S0.ari rfl rfl rfl (wrap_i64 (by omega))) rfl <| v0 (S0.assign rfl) rfl <| vE <| ?_  -- roundend
                exact ⟨(i + 1, decide (x = y)), (by first | exact ⟨hlt, fun e => ⟨rfl, fun _ => hgood (by simp at e; simp [e])⟩, fun e _ => hbad (by simp at e; simp [e, h5])⟩ | (dsimp only; exact ⟨hlt, fun e => ⟨rfl, fun _ => hgood (by simp at e; simp [e])⟩, fun e _ => hbad (by simp at e; simp [e, h5])⟩)), (show n - (i + 1) < n - i by omega), ⟨⟨rfl, rfl, rfl, rfl, rfl, rfl, rfl, rfl, trivial⟩, rfl, rfl⟩, ⟨_, (take1 at0 (take1 at0 take0))⟩⟩
            | false =>
              skip
              refine WP.condFh rfl (rfl) ?_
              refine WP.exit <| WP.seq <| WP.region <| v0 (S0.move rfl) rfl <| v0 (S0.move rfl) rfl <| ?_  -- guard t63 (wants True) at t64 := move t9 [if #1=True]
              refine csTh (t := 63) rfl (rfl) ?_
              refine gT rfl <| v0 (S0.move rfl) rfl <| gT rfl <| v0 (S0.not rfl) rfl <| v0 (S0.pickT rfl rfl) rfl <| vE <| ?_  -- cond
              refine WP.condTh rfl (rfl) ?_
              refine WP.seq <| WP.region <| v0 (S0.assign rfl) rfl <| vE <| WP.ret <| ?_  -- ret
              refine Leaves.drop take0 ?_
              refine r1 rfl rfl ⟨?_, rfl⟩
              exact congrArg Value.bool (hbadn (by rw [hfa2 rfl rfl]; rfl))
          | false =>
            skip
            refine csFh (t := 41) rfl (rfl) ?_
            refine gF rfl rfl <| v0 (S0.pickF rfl rfl) rfl <| vE <| WP.condF rfl <| WP.exit <| WP.seq <| WP.region <| v0 (S0.move rfl) rfl <| v0 (S0.move rfl) rfl <| ?_  -- guard t63 (wants True) at t64 := move t9 [if #1=True]
            refine csFh (t := 63) rfl (rfl) ?_
            refine gF rfl rfl <| gF rfl rfl <| v0 (S0.pickF rfl rfl) rfl <| vE <| WP.condF rfl <| WP.skip <| WP.region <| v0 (S0.move rfl) rfl <| v0 (S0.ari rfl rfl rfl (wrap_i64 (by omega))) rfl <| v0 (S0.assign rfl) rfl <| vE <| ?_  -- roundend
            exact ⟨n + 1, (by first | exact ⟨by omega, by omega, hgoodn rfl⟩ | (dsimp only; exact ⟨by omega, by omega, hgoodn rfl⟩)), (by omega), ⟨⟨rfl, rfl, rfl, trivial⟩, rfl, rfl⟩, ⟨_, take0⟩⟩
        · skip
          have ein : i = n := by omega
          refine gF rfl rfl <| v0 (S0.pickF rfl rfl) rfl <| v0 (S0.move rfl) rfl <| gF rfl rfl <| v0 (S0.pickF rfl rfl) rfl <| vE <| WP.condF rfl <| WP.exit <| WP.seq <| WP.region <| v0 (S0.move rfl) rfl <| v0 (S0.move rfl) rfl <| ?_  -- guard t63 (wants True) at t64 := move t9 [if #1=True]
          skip
          cases some_ with
          | true =>
            skip
            refine csTh (t := 63) rfl (rfl) ?_
            refine gT rfl <| v0 (S0.move rfl) rfl <| gT rfl <| v0 (S0.not rfl) rfl <| v0 (S0.pickT rfl rfl) rfl <| vE <| ?_  -- cond
            skip
            cases is_ with
            | true =>
              skip
              obtain ⟨rfl, hok⟩ := htr rfl
              refine WP.condFh rfl (rfl) ?_
              refine WP.skip <| WP.region <| v0 (S0.move rfl) rfl <| v0 (S0.ari rfl rfl rfl (wrap_i64 (by omega))) rfl <| v0 (S0.assign rfl) rfl <| vE <| ?_  -- roundend
              exact ⟨n + 1, (by first | exact ⟨by omega, by omega, hgoodn (by rw [rowOk_all X Y fun j x y hx hy => hok rfl j x y (by have := hlb rfl; have := (List.getElem?_eq_some_iff.1 hy).1; omega) hx hy]; rfl)⟩ | (dsimp only; exact ⟨by omega, by omega, hgoodn (by rw [rowOk_all X Y fun j x y hx hy => hok rfl j x y (by have := hlb rfl; have := (List.getElem?_eq_some_iff.1 hy).1; omega) hx hy]; rfl)⟩)), (by omega), ⟨⟨rfl, rfl, rfl, trivial⟩, rfl, rfl⟩, ⟨_, take0⟩⟩
            | false =>
              skip
              refine WP.condTh rfl (rfl) ?_
              refine WP.seq <| WP.region <| v0 (S0.assign rfl) rfl <| vE <| WP.ret <| ?_  -- ret
              refine Leaves.drop take0 ?_
              refine r1 rfl rfl ⟨?_, rfl⟩
              exact congrArg Value.bool (hbadn (by rw [hfa2 rfl rfl]; rfl))
          | false =>
            skip
            refine csFh (t := 63) rfl (rfl) ?_
            refine gF rfl rfl <| gF rfl rfl <| v0 (S0.pickF rfl rfl) rfl <| vE <| WP.condF rfl <| WP.skip <| WP.region <| v0 (S0.move rfl) rfl <| v0 (S0.ari rfl rfl rfl (wrap_i64 (by omega))) rfl <| v0 (S0.assign rfl) rfl <| vE <| ?_  -- roundend
            exact ⟨n + 1, (by first | exact ⟨by omega, by omega, hgoodn rfl⟩ | (dsimp only; exact ⟨by omega, by omega, hgoodn rfl⟩)), (by omega), ⟨⟨rfl, rfl, rfl, trivial⟩, rfl, rfl⟩, ⟨_, take0⟩⟩
      · skip
        have e : n = 9 := by omega
        refine WP.exit <| WP.seq <| WP.region <| v0 (S0.assign rfl) rfl <| vE <| WP.ret <| ?_  -- ret
        refine r1 rfl rfl ⟨?_, rfl⟩
        exact congrArg Value.bool (hiff.2 fun m h1 h2 => hall m h1 (by omega)).symm
end Go.Proofs.YtipljeomgdomnaaGreatDoor
