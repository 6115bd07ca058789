import Derived.Test.YtmkgokjfkmbcoaaGreatDoorK3
import Derived.Test.YtmkgokjfkmbcoaaGreatDoorK2
import Derived.Test.YtmkgokjfkmbcoaaGreatDoorK1
set_option linter.unusedSimpArgs false
set_option linter.unusedVariables false
set_option linter.unnecessarySimpa false
/- W9 -/
namespace Go.Proofs.YtmkgokjfkmbcoaaGreatDoor
open Go

theorem less_tells {t : HT} {L : Asks} (h : Tells t L) {f : Str} {i : Int} (hok : okA f i = true) (hn : 1 < hasK L f i) {b mk ma ck ca : Nat} {E : AL} {K : HF} (hs : HT.sub (levels f) t = some (.nd b mk ma ck ca E K)) :
    Tells (HT.put (levels f) t (.nd b mk ma ck (clkM (aml E) ca i) (putA E ca i (hasK L f i - 1)) K)) (lessK L f i) := by
  have hsw := HT.sub_wf hs h.wf
  simp only [HT.wf] at hsw
  simp only [okA, Bool.and_eq_true, decide_eq_true_eq] at hok
  refine h.upd hs (by rw [aml_put]; exact hsw.2.1.put _ _) (putA_pos hsw.2.2.1 (by omega)) (h.ok.less hok.1 hok.2) (fun j => ?_) (fun g j hg => ?_)
  · rw [getA_put, has_less h.ok f i (by omega), h.node hs]
    by_cases e : j = i <;> simp [e]
  · rw [has_less h.ok f i (by omega), if_neg (fun e => hg e.1)]
theorem putA_keys (E : AL) (ca : Nat) (i v : Int) (h : (E.map (·.1)).Nodup) : ((putA E ca i v).map (·.1)).Nodup := by
  unfold putA
  split
  · rename_i hm
    have : ∀ E : AL, (setA E i v).map (·.1) = E.map (·.1) := by
      intro E
      induction E with
      | nil => rfl
      | cons x E ih => simp only [setA]; split <;> simp_all
    rw [this]; exact h
  · rename_i hm
    rw [List.map_append, List.nodup_append]
    exact ⟨h, by simp, fun a ha b hb e => by simp at hb; subst hb; subst e; exact hm ha⟩
theorem del_pos {E : AL} {ca : Nat} {i v : Int} (h : ∀ x ∈ E, 0 < x.2.1) (hn : (E.map (·.1)).Nodup) : ∀ x ∈ delA (putA E ca i v) i, 0 < x.2.1 := fun x hx => by
  have hk := delA_keys (putA E ca i v) i (putA_keys E ca i v hn)
  have hxm : x.1 ∈ (delA (putA E ca i v) i).map (·.1) := List.mem_map.2 ⟨x, hx, rfl⟩
  have hne : x.1 ≠ i := fun e => by rw [e] at hxm; exact hk hxm
  have hm := (delA_sub _ _).subset hx
  have key : ∀ E : AL, (∀ x ∈ E, 0 < x.2.1) → ∀ x ∈ setA E i v, x.1 ≠ i → 0 < x.2.1 := by
    intro E
    induction E with
    | nil => intro _ x hx; cases hx
    | cons y E ih =>
      intro h x hx hne
      simp only [setA] at hx
      split at hx
      · rcases List.mem_cons.1 hx with rfl | hx
        · exact absurd rfl hne
        · exact h x (List.mem_cons_of_mem _ hx)
      · rcases List.mem_cons.1 hx with rfl | hx
        · exact h _ List.mem_cons_self
        · exact ih (fun z hz => h z (List.mem_cons_of_mem _ hz)) x hx hne
  unfold putA at hm
  split at hm
  · exact key E h x hm hne
  · rcases List.mem_append.1 hm with hm | hm
    · exact h x hm
    · simp at hm; subst hm; exact absurd rfl hne
theorem gone_tells {t : HT} {L : Asks} (h : Tells t L) {f : Str} {i : Int} (hok : okA f i = true) (hn : hasK L f i = 1) {b mk ma ck ca : Nat} {E : AL} {K : HF} (hs : HT.sub (levels f) t = some (.nd b mk ma ck ca E K)) (v : Int) :
    Tells (HT.put (levels f) t (.nd b mk ma ck (clkM (aml E) ca i) (delA (putA E ca i v) i) K)) (lessK L f i) := by
  have hsw := HT.sub_wf hs h.wf
  simp only [HT.wf] at hsw
  simp only [okA, Bool.and_eq_true, decide_eq_true_eq] at hok
  have hek : (E.map (·.1)).Nodup := by have := hsw.2.1.keys; rwa [aml_keys] at this
  refine h.upd hs (by rw [aml_del, aml_put]; exact (hsw.2.1.put _ _).del _) (del_pos hsw.2.2.1 hek) (h.ok.less hok.1 hok.2) (fun j => ?_) (fun g j hg => ?_)
  · rw [getA_del (putA_keys E ca i v hek), getA_put, has_less h.ok f i (by omega), h.node hs]
    by_cases e : j = i
    · simp [e, hn]
    · simp [e]
  · rw [has_less h.ok f i (by omega), if_neg (fun e => hg e.1)]
theorem trimmed {tb : Nat} {t2 : HT} {L : Asks} (h : Tells t2 L) (hd : t2.dep ≤ 8) {t' : HT} (hw : t'.wf) (hb : t'.b = t2.b) (hc : ∀ p i, t'.cnt p i = t2.cnt p i) (hdd : t'.dep ≤ t2.dep) : IsTr tb L ((tb, cel [t2.ptr] 56) :: t'.blks 63) :=
  ⟨t', h.same hw hc, by omega, by unfold HT.ptr; rw [hb]⟩
theorem drop_spec {tb : Nat} {L : Asks} {c : List Blk} {m : Nat} (h : IsTr tb L c) (hb : AskB L m) (hm : m ≤ 1000000) {f : Str} (hf : f.length ≤ 1000) (i : Int) :
    FN Tryz.prog 30 [.pointer (some ⟨tb, 0, none⟩), sv f, .int .i64 i] [c] (fun v h => ∃ c', v = .tuple ⟨[.int .i64 (dropV L f i), .int .i64 (dropE L f i)]⟩ ∧ IsTr tb (dropR L f i) c' ∧ h = [c']) := by
  have hh := h
  obtain ⟨t, ht, hd, rfl⟩ := hh
  have bad : ∀ e, ¬ (okA f i = true ∧ hasK L f i ≠ 0) → dropE L f i = e → ∃ c', Value.tuple ⟨[.int .i64 0, .int .i64 e]⟩ = .tuple ⟨[.int .i64 (dropV L f i), .int .i64 (dropE L f i)]⟩ ∧ IsTr tb (dropR L f i) c' ∧ [(tb, cel [t.ptr] 56) :: t.blks 63] = [c'] := fun e h1 h2 => ⟨_, by rw [dropV, if_neg h1, h2], by rw [dropR, if_neg h1]; exact h, rfl⟩
  refine FN.intro 57 [(0, .pointer (some ⟨tb, 0, none⟩)), (1, sv f), (2, .int .i64 i)] Tryz.func30 rfl (enters Tryz.func30 (by kernel_rfl) rfl) Tryz.ntmps30 rfl rfl ?_
  refine WP.seq <| WP.region <| v0 (S0.assign rfl) rfl <| v0 (S0.assign rfl) rfl <| vE <| WP.seq <| WP.seq <| WP.region <| v0 (S0.move rfl) rfl <| ?_  -- op t11 := call F34{rivulet/topic.Filter}(t10)
  refine vcd (S1.callF rfl (filter_spec (show f.length ≤ 1000000 by omega)) take0) rfl ?_
  refine v0 (S0.not rfl) rfl <| v0 (S0.move rfl) rfl <| ?_  -- guard t13 (wants False) at t14 := move t2 [if #3=False]
  skip
  by_cases hF : filtS f = true
  · skip
    refine csFh (t := 13) rfl ((by simp [hF])) ?_
    refine gT rfl <| v0 (S0.move rfl) rfl <| gT rfl <| v0 (S0.cmp rfl rfl rfl) rfl <| v0 (S0.pickF rfl rfl) rfl <| vE <| ?_  -- cond
    first | refine WP.condP rfl (fun hi => ?_) (fun hi => ?_) | refine WP.condN rfl (fun hi => ?_) (fun hi => ?_) | refine WP.cond rfl (fun hi => ?_) (fun hi => ?_)
    · skip
      have hok : okA f i = false := by simp [okA]; omega
      refine WP.seq <| WP.region <| v0 (S0.assign rfl) rfl <| v0 (S0.assign rfl) rfl <| vE <| WP.ret <| ?_  -- ret
      refine r2 rfl rfl rfl ?_
      exact bad 1 (by simp [hok]) (by simp [dropE, hok])
    · skip
      have hok : okA f i = true := by simp [okA, hF]; omega
      have hhas := hb.has f i
      have hnn := has_nonneg ht.ok f i
      refine WP.skip <| WP.seq <| WP.region <| v0 (S0.move rfl) rfl <| v0 (S0.move rfl) rfl <| ?_  -- op t19 := call F35{(*rivulet/trie.Trie).find}(t17, t18, false)
      refine vcd (S1.callF rfl (find0_spec ht.wf hf) (take1 at0 take0)) rfl ?_
      skip
      cases hs : HT.sub (levels f) t with
      | none =>
        dsimp only
        have h0 := ht.none hs i
        skip
        refine v0 (S0.assign rfl) rfl <| vE <| WP.seq <| WP.seq <| WP.region <| v0 (S0.move rfl) rfl <| v0 (S0.nilP rfl rfl rfl rfl) rfl <| v0 (S0.move rfl) rfl <| ?_  -- guard t22 (wants False) at t23 := move t8 [if #2=False]
        refine csTh (t := 22) rfl (rfl) ?_
        refine gF rfl rfl <| gF rfl rfl <| gF rfl rfl <| gF rfl rfl <| gF rfl rfl <| gF rfl rfl <| gF rfl rfl <| v0 (S0.pickT rfl rfl) rfl <| vE <| WP.condT rfl <| WP.seq <| WP.region <| v0 (S0.assign rfl) rfl <| v0 (S0.assign rfl) rfl <| vE <| WP.ret <| ?_  -- ret
        refine r2 rfl rfl rfl ?_
        exact bad 8 (by simp [h0]) (by simp [dropE, hok, h0])
      | some s =>
        skip
        cases s with
        | nd b mk ma ck ca E K =>
          obtain ⟨i1, i2, i3, -⟩ := HT.node_mem (ct := (tb, cel [t.ptr] 56) :: t.blks 63) (fun z hz => List.mem_cons_of_mem _ (HT.sub_mem _ hs z hz))
          simp only [ptr_nd]
          have hE := ht.node hs
          obtain ⟨C, hC1, hC2⟩ := HT.split 63 hs
          refine v0 (S0.assign rfl) rfl <| vE <| WP.seq <| WP.seq <| WP.region <| v0 (S0.move rfl) rfl <| v0 (S0.nilP rfl rfl rfl rfl) rfl <| v0 (S0.move rfl) rfl <| ?_  -- guard t22 (wants False) at t23 := move t8 [if #2=False]
          refine csFh (t := 22) rfl (rfl) ?_
          refine gT rfl <| v0 (S0.move rfl) rfl <| gT rfl <| v0 (S0.nilCheck rfl) rfl <| gT rfl <| v0 (S0.fieldAddr rfl) rfl <| gT rfl <| v0 (S0.load rfl rfl) rfl <| gT rfl <| v0 (S0.move rfl) rfl <| ?_  -- op t28 := lookup 61 t26 t27 false [if #2=False]
          refine gT rfl <| v0 (S0.lookupV (ek := Value.int .i64) (k := i) rfl rfl (aml_read E i)) rfl <| ?_
          rw [hE i]
          refine gT rfl <| v0 (S0.cmp rfl rfl rfl) rfl <| v0 (S0.pickF rfl rfl) rfl <| vE <| ?_  -- cond
          first | refine WP.condP rfl (fun h0 => ?_) (fun h0 => ?_) | refine WP.condN rfl (fun h0 => ?_) (fun h0 => ?_) | refine WP.cond rfl (fun h0 => ?_) (fun h0 => ?_)
          · skip
            refine WP.seq <| WP.region <| v0 (S0.assign rfl) rfl <| v0 (S0.assign rfl) rfl <| vE <| WP.ret <| ?_  -- ret
            refine r2 rfl rfl rfl ?_
            exact bad 8 (by simp [h0]) (by simp [dropE, hok, h0])
          · skip
            refine WP.skip <| WP.seq <| WP.region <| v0 (S0.move rfl) rfl <| v0 (S0.nilCheck rfl) rfl <| v0 (S0.fieldAddr rfl) rfl <| v0 (S0.load rfl rfl) rfl <| v0 (S0.move rfl) rfl <| ?_  -- op t36 := lookup 61 t34 t35 false
            refine v0 (S0.lookupV (ek := Value.int .i64) (k := i) rfl rfl (aml_read E i)) rfl <| ?_
            rw [hE i]
            refine v0 (S0.ari rfl rfl rfl (wrap_i64 (by omega))) rfl <| ?_  -- op mapUpdate 61 t34 t35 t37
            refine WO.perm (h' := [[(ma, mapO (Value.int .i64) (aml E) ca)], restC tb t b mk ma ck K C]) (k := []) (pm fun a_ => by have h0_ := pm_of (hC1) a_; (try simp only [List.flatten_append, List.flatten_cons, List.flatten_nil, List.append_nil, List.cons_append, List.nil_append, List.append_assoc, nOf_app, nOf_cons, nOf_nil, Nat.add_zero, Nat.zero_add, List.map_append, List.map_cons, List.map_nil, HT.blks] at h0_); (try simp only [List.flatten_append, List.flatten_cons, List.flatten_nil, List.append_nil, List.cons_append, List.nil_append, List.append_assoc, nOf_app, nOf_cons, nOf_nil, Nat.add_zero, Nat.zero_add, List.map_append, List.map_cons, List.map_nil, HT.blks]); omega) ?_
            refine vs (S1.mapUpdate (ek := Value.int .i64) (k := i) rfl rfl rfl) <| ?_
            rw [← aml_put]
            refine vE <| WP.seq <| WP.region <| v0 (S0.move rfl) rfl <| v0 (S0.nilCheck rfl) rfl <| v0 (S0.fieldAddr rfl) rfl <| v0 (S0.load rfl rfl) rfl <| v0 (S0.move rfl) rfl <| ?_  -- op t43 := lookup 61 t41 t42 false
            refine v0 (S0.lookupV (ek := Value.int .i64) (k := i) rfl rfl (aml_read _ i)) rfl <| ?_
            rw [getA_put, if_pos rfl]
            refine v0 (S0.assign rfl) rfl <| vE <| WP.seq <| WP.seq <| WP.region <| v0 (S0.move rfl) rfl <| v0 (S0.cmp rfl rfl rfl) rfl <| vE <| ?_  -- cond
            have hdr : dropR L f i = lessK L f i := by rw [dropR, if_pos ⟨hok, h0⟩]
            have hdv : Value.tuple ⟨[.int .i64 (hasK L f i - 1), .int .i64 0]⟩ = .tuple ⟨[.int .i64 (dropV L f i), .int .i64 (dropE L f i)]⟩ := by rw [dropV, if_pos ⟨hok, h0⟩, dropE, if_pos hok, if_pos h0]
            rw [hdr, ← hdv]
            first | refine WP.condP rfl (fun h1 => ?_) (fun h1 => ?_) | refine WP.condN rfl (fun h1 => ?_) (fun h1 => ?_) | refine WP.cond rfl (fun h1 => ?_) (fun h1 => ?_)
            · skip
              have hone : hasK L f i = 1 := by omega
              have ht2 := gone_tells ht hok hone hs (hasK L f i - 1)
              have hd2 := put_dep (ca' := clkM (aml E) ca i) (E' := delA (putA E ca i (hasK L f i - 1)) i) hs hd
              have hpb := put_back (tb := tb) (E' := delA (putA E ca i (hasK L f i - 1)) i) hs (hC2 (.nd b mk ma ck (clkM (aml E) ca i) (delA (putA E ca i (hasK L f i - 1)) i) K) rfl)
              have hpt : t.ptr = (HT.put (levels f) t (.nd b mk ma ck (clkM (aml E) ca i) (delA (putA E ca i (hasK L f i - 1)) i) K)).ptr := by unfold HT.ptr; rw [HT.put_b (u := .nd b mk ma ck (clkM (aml E) ca i) (delA (putA E ca i (hasK L f i - 1)) i) K) hs rfl]
              generalize HT.put (levels f) t (.nd b mk ma ck (clkM (aml E) ca i) (delA (putA E ca i (hasK L f i - 1)) i) K) = t2 at ht2 hd2 hpb hpt
              refine WP.seq <| WP.region <| v0 (S0.move rfl) rfl <| v0 (S0.nilCheck rfl) rfl <| v0 (S0.fieldAddr rfl) rfl <| v0 (S0.load rfl rfl) rfl <| v0 (S0.move rfl) rfl <| ?_  -- op delete(t49, t50) :[61, 3]
              refine vs (S1.delete (ek := Value.int .i64) (k := i) rfl rfl) <| ?_
              rw [← aml_del]
              refine vE <| WP.region <| v0 (S0.move rfl) rfl <| v0 (S0.nilCheck rfl) rfl <| v0 (S0.fieldAddr rfl) rfl <| v0 (S0.load rfl rfl) rfl <| ?_  -- op t55 := call F36{rivulet/trie.trim}(t54)
              refine WO.perm hpb ?_
              rw [hpt]
              refine WO.perm (h' := [t2.blks 63, [(tb, cel [t2.ptr] 56)]]) (k := []) (pm fun a_ => by (try simp only [List.flatten_append, List.flatten_cons, List.flatten_nil, List.append_nil, List.cons_append, List.nil_append, List.append_assoc, nOf_app, nOf_cons, nOf_nil, Nat.add_zero, Nat.zero_add, List.map_append, List.map_cons, List.map_nil]); omega) ?_
              refine vc (S1.callF rfl (trim_spec t2 ht2.wf) (take1 at0 take0)) rfl ?_
              rintro _ _ ⟨t3, h31, h32, h33, h34, rfl, rfl⟩
              refine app ?_
              refine vE <| WP.seq <| WP.region <| v0 (S0.move rfl) rfl <| v0 (S0.assign rfl) rfl <| v0 (S0.assign rfl) rfl <| vE <| WP.ret <| ?_  -- ret
              refine Leaves.drop (h' := [(tb, cel [t2.ptr] 56) :: t3.blks 63]) (k := []) (pm fun a_ => by (try simp only [List.flatten_append, List.flatten_cons, List.flatten_nil, List.append_nil, List.cons_append, List.nil_append, List.append_assoc, nOf_app, nOf_cons, nOf_nil, Nat.add_zero, Nat.zero_add, List.map_append, List.map_cons, List.map_nil]); omega) ?_
              refine r2 rfl rfl rfl ?_
              exact ⟨_, rfl, trimmed ht2 hd2 h31 h32 h33 h34, rfl⟩
            · skip
              refine WP.skip <| WP.seq <| WP.region <| v0 (S0.move rfl) rfl <| v0 (S0.assign rfl) rfl <| v0 (S0.assign rfl) rfl <| vE <| WP.ret <| ?_  -- ret
              refine Leaves.drop (put_back hs (hC2 (.nd b mk ma ck (clkM (aml E) ca i) (putA E ca i (hasK L f i - 1)) K) rfl)) ?_
              refine r2 rfl rfl rfl ?_
              exact ⟨_, rfl, ⟨_, less_tells ht hok (by omega) hs, put_dep hs hd, rfl⟩, rfl⟩
  · skip
    have hok : okA f i = false := by simp [okA, hF]
    refine csTh (t := 13) rfl ((by simp [hF])) ?_
    refine gF rfl rfl <| gF rfl rfl <| v0 (S0.pickT rfl rfl) rfl <| vE <| WP.condT rfl <| WP.seq <| WP.region <| v0 (S0.assign rfl) rfl <| v0 (S0.assign rfl) rfl <| vE <| WP.ret <| ?_  -- ret
    refine r2 rfl rfl rfl ?_
    exact bad 1 (by simp [hok]) (by simp [dropE, hok])
end Go.Proofs.YtmkgokjfkmbcoaaGreatDoor
/- W10 -/
namespace Go.Proofs.YtmkgokjfkmbcoaaGreatDoor
open Go

theorem del_put {t : HT} (hw : t.wf) {p : List Str} {b mk ma ck ca : Nat} {E : AL} {K : HF} (hs : HT.sub p t = some (.nd b mk ma ck ca E K)) (id : Int) :
    (HT.put p t (.nd b mk ma ck ca (delA E id) K)).wf ∧ (∀ q i, (HT.put p t (.nd b mk ma ck ca (delA E id) K)).cnt q i = if q = p ∧ i = id then 0 else t.cnt q i) := by
  have hsw := HT.sub_wf hs hw
  simp only [HT.wf] at hsw
  have hek : (E.map (·.1)).Nodup := by have := hsw.2.1.keys; rwa [aml_keys] at this
  refine ⟨HT.put_wf hs rfl hw ⟨hsw.1, by rw [aml_del]; exact hsw.2.1.del _, fun x hx => hsw.2.2.1 x ((delA_sub E id).subset hx), hsw.2.2.2⟩, fun q i => ?_⟩
  have h1 := HT.put_same (u := .nd b mk ma ck ca (delA E id) K) hs q i (fun r i hr => by
    cases r with
    | nil => exact absurd rfl hr
    | cons x r => rfl)
  rw [h1]
  by_cases e : q = p
  · rw [if_pos e]
    have h2 : (HT.nd b mk ma ck ca (delA E id) K).cnt [] i = getA (delA E id) i := rfl
    rw [h2, getA_del hek]
    by_cases e2 : i = id
    · simp [e, e2]
    · rw [if_neg e2, if_neg (fun h => e2 h.2), e]
      have := HT.cnt_sub p [] t i
      rw [List.append_nil, hs] at this
      exact this.symm
  · rw [if_neg e, if_neg (fun h => e h.1)]
structure LvI (L : Asks) (id : Int) (t : HT) (j : Nat) (t1 : HT) : Prop where
  wf : t1.wf
  b : t1.b = t.b
  dep : t1.dep ≤ 8
  cnt : ∀ p q, t1.cnt p q = if q = id ∧ (∃ f ∈ (ofK L id).take j, p = levels f) then 0 else t.cnt p q
theorem LvI.done {L : Asks} {id : Int} {t t1 : HT} (h : Tells t L) (hv : LvI L id t (ofK L id).length t1) : Tells t1 (leaveK L id) := by
  refine ⟨hv.wf, h.ok.leave id, fun f q => ?_, fun p i hne => ?_⟩
  · rw [hv.cnt, has_leave, List.take_length]
    by_cases e : q = id
    · rw [if_pos e]
      by_cases hm : f ∈ ofK L id
      · rw [if_pos ⟨e, f, hm, rfl⟩]
      · rw [if_neg (fun ⟨_, g, hg, e2⟩ => hm (levels_inj e2 ▸ hg)), h.cnt, e]
        by_cases h0 : hasK L f id = 0
        · exact h0
        · exact absurd (mem_ofK.2 ⟨_, has_ne h0⟩) hm
    · rw [if_neg e, if_neg (fun h => e h.1), h.cnt]
  · rw [hv.cnt] at hne
    split at hne
    · exact absurd rfl hne
    · exact h.path p i hne
theorem leave_spec {tb : Nat} {L : Asks} {c : List Blk} {m : Nat} (h : IsTr tb L c) (hb : AskB L m) (hm : m ≤ 1000000) (id : Int) :
    FN Tryz.prog 14 [.pointer (some ⟨tb, 0, none⟩), .int .i64 id] [c] (fun v h => ∃ c', v = .int .i64 ((ofK L id).length : Int) ∧ IsTr tb (leaveK L id) c' ∧ h = [c']) := by
  have hof := of_spec h hb hm id
  obtain ⟨t, ht, hd, rfl⟩ := h
  have hfl : ∀ f ∈ ofK L id, f.length ≤ 200 ∧ 0 < hasK L f id := fun f hf => by
    obtain ⟨n, hmm⟩ := mem_ofK.1 hf
    have h1 := filt_len (ht.ok.filt _ hmm).1
    have h2 := ht.ok.pos _ hmm
    have h3 := has_mem ht.ok hmm
    simp only at h1 h2
    exact ⟨h1, by omega⟩
  have hnd := (ofK_sorted L id).nodup
  have hMl : (ofK L id).length ≤ 1000000 := by
    have h1 := ofK_len ht.ok id
    have h2 := List.length_filter_le (fun x => decide (x.2.1 = id)) L
    have h3 := hb.len
    omega
  refine FN.intro 32 [(0, .pointer (some ⟨tb, 0, none⟩)), (1, .int .i64 id)] Tryz.func14 rfl (enters Tryz.func14 (by kernel_rfl) rfl) Tryz.ntmps14 rfl rfl ?_
  refine WP.seq <| WP.region <| v0 (S0.assign rfl) rfl <| vE <| WP.seq <| WP.region <| v0 (S0.move rfl) rfl <| v0 (S0.move rfl) rfl <| ?_  -- op t10 := call F23{(*rivulet/trie.Trie).Of}(t8, t9)
  refine vc (S1.callF rfl (hof) (take1 at0 take0)) rfl ?_
  rintro v _ ⟨row, hs, rfl⟩
  refine app ?_
  have hinit : LvI L id t 0 t := ⟨ht.wf, rfl, hd, fun p q => by simp⟩
  have hdone := fun t1 => LvI.done (t1 := t1) ht (id := id)
  generalize hM : ofK L id = M at hfl hs hdone hnd hMl
  obtain ⟨a, cap, rfl, hcap, hrow⟩ := hs.strsE
  refine v0 (S0.assign rfl) rfl <| vE <| WP.seq <| WP.seq <| WP.region <| v0 (S0.move rfl) rfl <| v0 (S0.lenSl rfl) rfl <| v0 (S0.move rfl) rfl <| vE <| WP.block <| ?_  -- Code.loop
  refine WP.loop (fun st : Nat × HT => st.1 ≤ M.length ∧ LvI L id t st.1 st.2) (fun st : Nat × HT => [(0, .pointer (some ⟨tb, 0, none⟩)), (1, .int .i64 id), (5, .slice a M.length cap), (11, .slice a M.length cap), (12, .int .i64 (M.length : Int)), (13, .int .i64 (st.1 : Int))]) (fun st : Nat × HT => [(tb, cel [st.2.ptr] 56) :: st.2.blks 63, row]) (fun st : Nat × HT => M.length - st.1) ((0, t)) (⟨Nat.zero_le _, hinit⟩) ⟨rfl, rfl, rfl, rfl, rfl, rfl, trivial⟩ ⟨_, (take1 (atS at0) (take1 at0 take0))⟩ (fun st hinv => ?_) 
  obtain ⟨j, t1⟩ := st
  obtain ⟨hj, hv⟩ := hinv
  dsimp only at hj hv ⊢
  refine WP.seq <| WP.region <| v0 (S0.cmp rfl rfl rfl) rfl <| vE <| WP.seq <| ?_  -- cond
  first | refine WP.condP rfl (fun h1 => ?_) (fun h1 => ?_) | refine WP.condN rfl (fun h1 => ?_) (fun h1 => ?_) | refine WP.cond rfl (fun h1 => ?_) (fun h1 => ?_)
  · skip
    have hlt : j < M.length := by omega
    rcases hrow with ⟨e, -⟩ | ⟨b1, sp1, rfl, rfl, hsp1⟩
    · rw [e] at hlt; simp at hlt
    have hx : M[j]? = some M[j] := by simp [hlt]
    have hxm := hfl _ (List.getElem_mem hlt)
    have hxn : M[j] ∉ M.take j := fun hmem => by
      obtain ⟨k, hk, e⟩ := List.getElem_of_mem hmem
      rw [List.length_take] at hk
      rw [List.getElem_take] at e
      have := (List.nodup_iff_pairwise_ne.1 hnd)
      exact (List.pairwise_iff_getElem.1 this) k j (by omega) hlt (by omega) e
    generalize M[j] = f at hx hxm hxn
    have hc1 : t1.cnt (levels f) id ≠ 0 := by
      rw [hv.cnt, hM, if_neg (fun ⟨_, g, hg, e⟩ => hxn (levels_inj e ▸ hg)), ht.cnt]; omega
    refine WP.skip <| WP.seq <| WP.block <| WP.seq <| WP.region <| ?_  -- op t15 := indexAddr 40 t11 t13
    refine v0 (S0.index1 rfl rfl hlt) rfl <| ?_
    refine v0 (S0.load rfl (strs_get hx)) rfl <| ?_
    refine v0 (S0.assign rfl) rfl <| vE <| WP.region <| v0 (S0.move rfl) rfl <| v0 (S0.move rfl) rfl <| ?_  -- op t19 := call F35{(*rivulet/trie.Trie).find}(t17, t18, false)
    refine vcd (S1.callF rfl (find0_spec hv.wf (show f.length ≤ 1000 by omega)) (take1 at0 take0)) rfl ?_
    cases hsub : HT.sub (levels f) t1 with
    | none =>
      have := HT.cnt_sub (levels f) [] t1 id
      rw [List.append_nil, hsub] at this
      exact absurd this hc1
    | some s =>
      cases s with
      | nd b mk ma ck ca E K =>
        obtain ⟨i1, i2, i3, -⟩ := HT.node_mem (ct := (tb, cel [t1.ptr] 56) :: t1.blks 63) (fun z hz => List.mem_cons_of_mem _ (HT.sub_mem _ hsub z hz))
        simp only [ptr_nd]
        obtain ⟨C, hC1, hC2⟩ := HT.split 63 hsub
        obtain ⟨hp1, hp2⟩ := del_put hv.wf hsub id
        have hpb := put_back (tb := tb) (E' := delA E id) hsub (hC2 (.nd b mk ma ck ca (delA E id) K) rfl)
        have hvn : LvI L id t (j + 1) (HT.put (levels f) t1 (.nd b mk ma ck ca (delA E id) K)) := ⟨hp1, (HT.put_b (u := .nd b mk ma ck ca (delA E id) K) hsub rfl).trans hv.b, put_dep hsub hv.dep, fun p q => by
          rw [hp2, hv.cnt, hM, take_one hx]
          by_cases e : p = levels f ∧ q = id
          · rw [if_pos e, if_pos ⟨e.2, f, by simp, e.1⟩]
          · rw [if_neg e]
            by_cases e2 : q = id ∧ ∃ g ∈ M.take j, p = levels g
            · obtain ⟨h1, g, hg, h2⟩ := e2
              rw [if_pos ⟨h1, g, hg, h2⟩, if_pos ⟨h1, g, by simp [hg], h2⟩]
            · rw [if_neg e2, if_neg]
              rintro ⟨h1, g, hg, h2⟩
              rcases List.mem_append.1 hg with hg | hg
              · exact e2 ⟨h1, g, hg, h2⟩
              · simp at hg; subst hg; exact e ⟨h2, h1⟩⟩
        refine v0 (S0.nilCheck rfl) rfl <| v0 (S0.fieldAddr rfl) rfl <| v0 (S0.load rfl rfl) rfl <| v0 (S0.move rfl) rfl <| ?_  -- op delete(t22, t23) :[61, 3]
        refine WO.perm (h' := [[(ma, mapO (Value.int .i64) (aml E) ca)], restC tb t1 b mk ma ck K C, [(b1, .cells ⟨strs M ++ sp1⟩ 9 (0, 0))]]) (k := []) (pm fun a_ => by have h0_ := pm_of (hC1) a_; (try simp only [List.flatten_append, List.flatten_cons, List.flatten_nil, List.append_nil, List.cons_append, List.nil_append, List.append_assoc, nOf_app, nOf_cons, nOf_nil, Nat.add_zero, Nat.zero_add, List.map_append, List.map_cons, List.map_nil, HT.blks] at h0_); (try simp only [List.flatten_append, List.flatten_cons, List.flatten_nil, List.append_nil, List.cons_append, List.nil_append, List.append_assoc, nOf_app, nOf_cons, nOf_nil, Nat.add_zero, Nat.zero_add, List.map_append, List.map_cons, List.map_nil, HT.blks]); omega) ?_
        refine vs (S1.delete (ek := Value.int .i64) (k := id) rfl rfl) <| ?_
        rw [← aml_del]
        refine vE <| WP.region <| v0 (S0.ari rfl rfl rfl (wrap_i64 (by omega))) rfl <| v0 (S0.move rfl) rfl <| vE <| ?_  -- roundend
        exact ⟨(j + 1, HT.put (levels f) t1 (.nd b mk ma ck ca (delA E id) K)), (by first | exact ⟨hlt, hvn⟩ | (dsimp only; exact ⟨hlt, hvn⟩)), (show M.length - (j + 1) < M.length - j by omega), ⟨⟨rfl, rfl, rfl, rfl, rfl, rfl, trivial⟩, rfl, rfl⟩, ⟨[], (pm fun a_ => by have h0_ := pm_of (hpb) a_; (try simp only [List.flatten_append, List.flatten_cons, List.flatten_nil, List.append_nil, List.cons_append, List.nil_append, List.append_assoc, nOf_app, nOf_cons, nOf_nil, Nat.add_zero, Nat.zero_add, List.map_append, List.map_cons, List.map_nil] at h0_); (try simp only [List.flatten_append, List.flatten_cons, List.flatten_nil, List.append_nil, List.cons_append, List.nil_append, List.append_assoc, nOf_app, nOf_cons, nOf_nil, Nat.add_zero, Nat.zero_add, List.map_append, List.map_cons, List.map_nil]); omega)⟩⟩
  · skip
    have e : j = M.length := by omega
    subst e
    have ht1 := hdone t1 hv
    refine WP.exit <| WP.seq <| WP.region <| v0 (S0.move rfl) rfl <| v0 (S0.nilCheck rfl) rfl <| v0 (S0.fieldAddr rfl) rfl <| v0 (S0.load rfl rfl) rfl <| ?_  -- op t29 := call F36{rivulet/trie.trim}(t28)
    refine WO.perm (h' := [t1.blks 63, [(tb, cel [t1.ptr] 56)]]) (k := [row]) (pm fun a_ => by (try simp only [List.flatten_append, List.flatten_cons, List.flatten_nil, List.append_nil, List.cons_append, List.nil_append, List.append_assoc, nOf_app, nOf_cons, nOf_nil, Nat.add_zero, Nat.zero_add, List.map_append, List.map_cons, List.map_nil]); omega) ?_
    refine vc (S1.callF rfl (trim_spec t1 ht1.wf) (take1 at0 take0)) rfl ?_
    rintro _ _ ⟨t3, h31, h32, h33, h34, rfl, rfl⟩
    refine app ?_
    refine vE <| WP.seq <| WP.region <| v0 (S0.move rfl) rfl <| v0 (S0.lenSl rfl) rfl <| v0 (S0.assign rfl) rfl <| vE <| WP.ret <| ?_  -- ret
    refine Leaves.drop (h' := [(tb, cel [t1.ptr] 56) :: t3.blks 63]) (k := []) (pm fun a_ => by (try simp only [List.flatten_append, List.flatten_cons, List.flatten_nil, List.append_nil, List.cons_append, List.nil_append, List.append_assoc, nOf_app, nOf_cons, nOf_nil, Nat.add_zero, Nat.zero_add, List.map_append, List.map_cons, List.map_nil]); omega) ?_
    refine r1 rfl rfl ?_
    exact ⟨_, rfl, trimmed ht1 hv.dep h31 h32 h33 h34, rfl⟩
theorem match_spec0 {tb : Nat} {L : Asks} {c : List Blk} {m : Nat} (h : IsTr tb L c) (hb : AskB L m) (hm : m ≤ 1000000) {s : Str} (hs : s.length ≤ 1000) :
    FN Tryz.prog 17 [.pointer (some ⟨tb, 0, none⟩), sv s] [c] (fun v h => ∃ row, IsSl 3 1 v (ints (idsK L s)) row ∧ h = [row, c]) := by
  obtain ⟨t, ht, hd, rfl⟩ := h
  have hll := levels_len s
  refine FN.intro 21 [(0, .pointer (some ⟨tb, 0, none⟩)), (1, sv s)] Tryz.func17 rfl (enters Tryz.func17 (by kernel_rfl) rfl) Tryz.ntmps17 rfl rfl ?_
  refine WP.seq <| WP.region <| v0 (S0.assign rfl) rfl <| vE <| WP.seq <| WP.seq <| WP.region <| v0 (S0.move rfl) rfl <| ?_  -- op t7 := call F40{rivulet/topic.Right}(t6)
  refine vcd (S1.callF rfl (right_spec (show s.length ≤ 1000000 by omega)) take0) rfl ?_
  refine v0 (S0.not rfl) rfl <| vE <| ?_  -- cond
  skip
  cases hr : rightS s with
  | false =>
    skip
    refine WP.condTh rfl (rfl) ?_
    refine WP.perm (h' := [[], (tb, cel [t.ptr] 56) :: t.blks 63]) (k := []) (by simp) ?_
    refine WP.seq <| WP.region <| v0 (S0.assign rfl) rfl <| vE <| WP.ret <| ?_  -- ret
    refine r1 rfl rfl ?_
    exact ⟨[], by rw [idsK_none hr]; exact IsSl.nil, rfl⟩
  | true =>
    skip
    refine WP.condFh rfl (rfl) ?_
    skip
    refine WP.skip <| WP.seq <| WP.region <| vnv (S1.makeMap) rfl fun b9 => v0 (S0.assign rfl) rfl <| vE <| WP.seq <| WP.drawP [(0, none), (1, none), (2, none), (3, none), (4, none), (6, none), (5, none), (7, none)] mixed (by kernel_rfl) (by kernel_rfl) (by kernel_rfl) (take1 (atS at0) take0) <| w0 rfl rfl rfl (S0.move rfl) rfl <| w0 rfl rfl rfl (S0.nilCheck rfl) rfl <| w0 rfl rfl rfl (S0.fieldAddr rfl) rfl <| w0 rfl rfl rfl (S0.load rfl rfl) rfl <| w0 rfl rfl rfl (S0.move rfl) rfl <| w0 rfl rfl rfl (S0.move rfl) rfl <| ?_  -- op t15 := call F42{rivulet/topic.Levels}(t14)
    refine wc rfl rfl rfl rfl (S1.callF rfl (levels_spec (show s.length ≤ 1000000 by omega)) take0) rfl ?_
    rintro _ _ ⟨row, hsl, rfl⟩
    refine wapp ?_
    -- (nothing to walk: op t17 := call F41{rivulet/trie.gather}(t13, t15, t16))
    refine weS rfl rfl rfl rfl (S1.callF rfl (gather_spec (levels s) t ht.wf (d := b9) (G := []) (cg := 0) (ct := (tb, cel [t.ptr] 56) :: t.blks 63) (fun z hz => List.mem_cons_of_mem _ hz) WfM.nil hsl.rdS (by omega)) (take1 (atS (atS at0)) (take1 at0 (take1 at0 take0)))) rfl ?_
    rintro _ _ ⟨_, ⟨G', cg', hG', hk', rfl, rfl⟩, rfl⟩
    refine ⟨_, (take1 (atS at0) take0), ?_⟩
    refine wE <| WP.seq <| WP.region <| v0 (S0.move rfl) rfl <| ?_  -- op t19 := call F44{maps.Keys[rivulet/trie.asks,int,int]}(t18)
    have hk2 : ∀ i, i ∈ G'.map (·.1) ↔ HT.gath (levels s) t i := fun i => by rw [hk' i]; simp
    have hGl : G'.length ≤ L.length := by
      have h1 : (G'.map (·.1)).length ≤ (L.map (·.2.1)).length := hG'.keys.length_le_of_subset fun i hi => by
        obtain ⟨x, hx, e, -⟩ := (ht.gath hr i).1 ((hk2 i).1 hi)
        exact List.mem_map.2 ⟨x, hx, e⟩
      simpa using h1
    have hbl := hb.len
    refine vc (S1.callF rfl (keys_spec b9) take0) rfl ?_
    rintro _ _ ⟨bx, rfl, rfl⟩
    refine app ?_
    -- (nothing to walk: op t20 := call F43{slices.Sorted[int]}(t19))
    refine vc (S1.callF rfl (sorted_keys (L := G') (ck := cg') (m := b9) (cm := [(b9, mapO (Value.int .i64) G' cg')]) hG' (by omega)) (take1 at0 (take1 (atS at0) take0))) rfl ?_
    rintro v _ ⟨xs, row2, hp, hs2, rfl⟩
    refine app ?_
    refine v0 (S0.assign rfl) rfl <| vE <| WP.ret <| ?_  -- ret
    have hx2 : sortI (xs.map (·.1)) = idsK L s := ht.ids hr (((hp.map (·.1)).nodup_iff).2 hG'.keys) fun i => by rw [(hp.map (·.1)).mem_iff]; exact hk2 i
    rw [hx2] at hs2
    refine Leaves.drop (take1 at0 (take1 (atS at0) take0)) ?_
    refine r1 rfl rfl ?_
    exact ⟨row2, hs2, rfl⟩
end Go.Proofs.YtmkgokjfkmbcoaaGreatDoor
/- RefL -/
namespace Go.Proofs.YtmkgokjfkmbcoaaGreatDoor
open Go

theorem ltS_cons (a b : UInt8) (x y : Str) (h : a ≠ b) : ltS (a :: x) (b :: y) = decide ((a.toNat : Int) < (b.toNat : Int)) := by
  simp only [ltS, h, decide_false, Bool.false_and, Bool.or_false]
  rw [decide_eq_decide, UInt8.lt_iff_toNat_lt]
  omega
theorem rless1_spec {a b : Str} (ha : a.length ≤ 1000000) (hb : b.length ≤ 1000000) : FN Tryz.prog 54 [sv a, sv b] [] (is (.bool (ltS a b)) []) := by
  refine FN.intro 37 [(0, sv a), (1, sv b)] Tryz.func54 rfl (enters Tryz.func54 (by kernel_rfl) rfl) Tryz.ntmps54 rfl rfl ?_
  refine WP.seq <| WP.region <| v0 (S0.assign rfl) rfl <| vE <| WP.seq <| WP.seq <| WP.region <| v0 (S0.assign rfl) rfl <| vE <| WP.block <| ?_  -- Code.loop
  refine WP.loop (fun i : Nat => i ≤ a.length ∧ i ≤ b.length ∧ ltS a b = ltS (a.drop i) (b.drop i)) (fun i : Nat => [(0, sv a), (1, sv b), (5, .int .i64 (i : Int))]) (fun i : Nat => []) (fun i : Nat => a.length - i) (0) (⟨Nat.zero_le _, Nat.zero_le _, by simp⟩) ⟨rfl, rfl, rfl, trivial⟩ ⟨_, take0⟩ (fun i hinv => ?_) 
  obtain ⟨hi, hi2, hinv⟩ := hinv
  refine WP.seq <| WP.seq <| WP.region <| v0 (S0.move rfl) rfl <| v0 (S0.move rfl) rfl <| v0 (S0.lenSt rfl) rfl <| v0 (S0.cmp rfl rfl rfl) rfl <| v0 (S0.move rfl) rfl <| ?_  -- guard t10 (wants True) at t11 := move t5 [if #4=True]
  first | refine csP (t := 10) rfl (fun h1 => ?_) (fun h1 => ?_) | refine csN (t := 10) rfl (fun h1 => ?_) (fun h1 => ?_) | refine cs (t := 10) rfl (fun h1 => ?_) (fun h1 => ?_)
  · skip
    have hlt : i < a.length := by omega
    have hx : a[i]? = some a[i] := by simp [hlt]
    generalize a[i] = x at hx
    rw [drop_cons hx] at hinv
    refine gT rfl <| v0 (S0.move rfl) rfl <| gT rfl <| v0 (S0.move rfl) rfl <| gT rfl <| v0 (S0.lenSt rfl) rfl <| gT rfl <| v0 (S0.cmp rfl rfl rfl) rfl <| v0 (S0.pickT rfl rfl) rfl <| vE <| ?_  -- cond
    first | refine WP.condP rfl (fun h2 => ?_) (fun h2 => ?_) | refine WP.condN rfl (fun h2 => ?_) (fun h2 => ?_) | refine WP.cond rfl (fun h2 => ?_) (fun h2 => ?_)
    · skip
      have hlt2 : i < b.length := by omega
      have hy : b[i]? = some b[i] := by simp [hlt2]
      generalize b[i] = y at hy
      rw [drop_cons hy] at hinv
      refine WP.skip <| WP.seq <| WP.block <| WP.seq <| WP.drawP [(0, none), (1, none), (2, none), (3, none), (4, none), (5, none), (6, none)] mixed (by kernel_rfl) (by kernel_rfl) (by kernel_rfl) take0 <| w0 rfl rfl rfl (S0.move rfl) rfl <| w0 rfl rfl rfl (S0.move rfl) rfl <| ?_  -- op t20 := index 9 t18 t19
      refine w0 rfl rfl rfl (S0.indexSt rfl rfl hx) rfl <| ?_
      refine w0 rfl rfl rfl (S0.move rfl) rfl <| w0 rfl rfl rfl (S0.move rfl) rfl <| ?_  -- op t23 := index 9 t21 t22
      refine w0 rfl rfl rfl (S0.indexSt rfl rfl hy) rfl <| ?_
      refine w0 rfl rfl rfl (S0.cmp rfl rfl rfl) rfl <| wE <| ?_  -- cond
      first | refine WP.condP rfl (fun h3 => ?_) (fun h3 => ?_) | refine WP.condN rfl (fun h3 => ?_) (fun h3 => ?_) | refine WP.cond rfl (fun h3 => ?_) (fun h3 => ?_)
      · skip
        have hne : x ≠ y := fun e => h3 (by rw [e])
        refine WP.seq <| WP.drawP [(0, none), (1, none), (2, none), (3, none), (4, none), (5, none), (6, none), (7, none)] mixed (by kernel_rfl) (by kernel_rfl) (by kernel_rfl) take0 <| w0 rfl rfl rfl (S0.move rfl) rfl <| w0 rfl rfl rfl (S0.move rfl) rfl <| ?_  -- op t27 := index 9 t25 t26
        refine w0 rfl rfl rfl (S0.indexSt rfl rfl hx) rfl <| ?_
        refine w0 rfl rfl rfl (S0.move rfl) rfl <| w0 rfl rfl rfl (S0.move rfl) rfl <| ?_  -- op t30 := index 9 t28 t29
        refine w0 rfl rfl rfl (S0.indexSt rfl rfl hy) rfl <| ?_
        refine w0 rfl rfl rfl (S0.cmp rfl rfl rfl) rfl <| w0 rfl rfl rfl (S0.assign rfl) rfl <| wE <| WP.ret <| ?_  -- ret
        refine r1 rfl rfl ⟨?_, rfl⟩
        rw [hinv, ltS_cons _ _ _ _ hne]
      · skip
        have he : x = y := UInt8.toNat_inj.1 (by omega)
        refine WP.skip <| WP.region <| v0 (S0.move rfl) rfl <| v0 (S0.ari rfl rfl rfl (wrap_i64 (by omega))) rfl <| v0 (S0.assign rfl) rfl <| vE <| ?_  -- roundend
        exact ⟨i + 1, (by first | exact ⟨hlt, hlt2, by rw [hinv, he]; simp [ltS]⟩ | (dsimp only; exact ⟨hlt, hlt2, by rw [hinv, he]; simp [ltS]⟩)), (by omega), ⟨⟨rfl, rfl, rfl, trivial⟩, rfl, rfl⟩, ⟨_, take0⟩⟩
    · skip
      have e : b.drop i = [] := List.drop_eq_nil_of_le (by omega)
      refine WP.exit <| WP.seq <| WP.region <| v0 (S0.move rfl) rfl <| v0 (S0.lenSt rfl) rfl <| v0 (S0.move rfl) rfl <| v0 (S0.lenSt rfl) rfl <| v0 (S0.cmp rfl rfl rfl) rfl <| v0 (S0.assign rfl) rfl <| vE <| WP.ret <| ?_  -- ret
      refine r1 rfl rfl ⟨?_, rfl⟩
      rw [hinv, e]
      have : ¬ (a.length : Int) < (b.length : Int) := by omega
      simp [ltS, this]
  · skip
    have e : a.drop i = [] := List.drop_eq_nil_of_le (by omega)
    refine gF rfl rfl <| gF rfl rfl <| gF rfl rfl <| gF rfl rfl <| v0 (S0.pickF rfl rfl) rfl <| vE <| WP.condF rfl <| WP.exit <| WP.seq <| WP.region <| v0 (S0.move rfl) rfl <| v0 (S0.lenSt rfl) rfl <| v0 (S0.move rfl) rfl <| v0 (S0.lenSt rfl) rfl <| v0 (S0.cmp rfl rfl rfl) rfl <| v0 (S0.assign rfl) rfl <| vE <| WP.ret <| ?_  -- ret
    refine r1 rfl rfl ⟨?_, rfl⟩
    rw [hinv, e]
    cases hb : b.drop i with
    | nil =>
      have := List.drop_eq_nil_iff.1 hb
      simp [ltS]; omega
    | cons y t =>
      have := congrArg List.length hb
      simp at this
      simp [ltS]; omega
theorem rless_spec {a b : Str} (ha : a.length ≤ 100000) (hb : b.length ≤ 100000) : FN Tryz.prog 29 [sv a, sv b] [] (is (.bool (lessS a b)) []) := by
  have hal := levels_len a
  have hbl := levels_len b
  have hma : ∀ x ∈ levels a, x.length ≤ 1000000 := fun x hx => by have := levels_mem_len a x hx; omega
  have hmb : ∀ x ∈ levels b, x.length ≤ 1000000 := fun x hx => by have := levels_mem_len b x hx; omega
  refine FN.intro 47 [(0, sv a), (1, sv b)] Tryz.func29 rfl (enters Tryz.func29 (by kernel_rfl) rfl) Tryz.ntmps29 rfl rfl ?_
  refine WP.seq <| WP.region <| v0 (S0.assign rfl) rfl <| vE <| WP.seq <| WP.region <| v0 (S0.move rfl) rfl <| ?_  -- op t9 := call F52{rivulet/rivuletref03.Levels}(t8)
  refine vc (S1.callF rfl (rlevels_spec (show a.length ≤ 1000000 by omega)) take0) rfl ?_
  rintro _ _ ⟨ra, hsa, rfl⟩
  refine app ?_
  refine v0 (S0.move rfl) rfl <| ?_  -- op t11 := call F52{rivulet/rivuletref03.Levels}(t10)
  refine vc (S1.callF rfl (rlevels_spec (show b.length ≤ 1000000 by omega)) take0) rfl ?_
  rintro _ _ ⟨rb, hsb, rfl⟩
  refine app ?_
  rw [lessS]
  generalize levels a = A at hsa hal hma
  generalize levels b = B at hsb hbl hmb
  obtain ⟨aa, ac, rfl, -, hra⟩ := hsa.strsE
  obtain ⟨ba, bc, rfl, -, hrb⟩ := hsb.strsE
  refine v0 (S0.assign rfl) rfl <| v0 (S0.assign rfl) rfl <| vE <| WP.seq <| WP.seq <| WP.region <| v0 (S0.assign rfl) rfl <| vE <| WP.block <| ?_  -- Code.loop
  refine WP.loop (fun i : Nat => i ≤ A.length ∧ i ≤ B.length ∧ ltL A B = ltL (A.drop i) (B.drop i)) (fun i : Nat => [(5, .slice aa A.length ac), (6, .slice ba B.length bc), (7, .int .i64 (i : Int))]) (fun i : Nat => [ra, rb]) (fun i : Nat => A.length - i) (0) (⟨Nat.zero_le _, Nat.zero_le _, by simp⟩) ⟨rfl, rfl, rfl, trivial⟩ ⟨_, (take1 (atS at0) (take1 at0 take0))⟩ (fun i hinv => ?_) 
  obtain ⟨hi, hi2, hinv⟩ := hinv
  refine WP.seq <| WP.seq <| WP.region <| v0 (S0.move rfl) rfl <| v0 (S0.move rfl) rfl <| v0 (S0.lenSl rfl) rfl <| v0 (S0.cmp rfl rfl rfl) rfl <| v0 (S0.move rfl) rfl <| ?_  -- guard t16 (wants True) at t17 := move t7 [if #4=True]
  first | refine csP (t := 16) rfl (fun h1 => ?_) (fun h1 => ?_) | refine csN (t := 16) rfl (fun h1 => ?_) (fun h1 => ?_) | refine cs (t := 16) rfl (fun h1 => ?_) (fun h1 => ?_)
  · skip
    have hlt : i < A.length := by omega
    rcases hra with ⟨e, -⟩ | ⟨b1, sp1, rfl, rfl, hsp1⟩
    · rw [e] at hlt; simp at hlt
    have hx : A[i]? = some A[i] := by simp [hlt]
    have hxl := hma _ (List.getElem_mem hlt)
    generalize A[i] = x at hx hxl
    rw [drop_cons hx] at hinv
    refine gT rfl <| v0 (S0.move rfl) rfl <| gT rfl <| v0 (S0.move rfl) rfl <| gT rfl <| v0 (S0.lenSl rfl) rfl <| gT rfl <| v0 (S0.cmp rfl rfl rfl) rfl <| v0 (S0.pickT rfl rfl) rfl <| vE <| ?_  -- cond
    first | refine WP.condP rfl (fun h2 => ?_) (fun h2 => ?_) | refine WP.condN rfl (fun h2 => ?_) (fun h2 => ?_) | refine WP.cond rfl (fun h2 => ?_) (fun h2 => ?_)
    · skip
      have hlt2 : i < B.length := by omega
      rcases hrb with ⟨e, -⟩ | ⟨b2, sp2, rfl, rfl, hsp2⟩
      · rw [e] at hlt2; simp at hlt2
      have hy : B[i]? = some B[i] := by simp [hlt2]
      have hyl := hmb _ (List.getElem_mem hlt2)
      generalize B[i] = y at hy hyl
      rw [drop_cons hy] at hinv
      skip
      refine WP.skip <| WP.seq <| WP.block <| WP.seq <| WP.drawP [(0, none), (1, none), (2, none), (3, none), (4, none), (5, none), (6, none), (7, none), (8, none)] mixed (by kernel_rfl) (by kernel_rfl) (by kernel_rfl) (take1 at0 (take1 at0 take0)) <| w0 rfl rfl rfl (S0.move rfl) rfl <| w0 rfl rfl rfl (S0.move rfl) rfl <| ?_  -- op t26 := indexAddr 40 t24 t25
      refine w0 rfl rfl rfl (S0.index1 rfl rfl hlt) rfl <| ?_
      refine w0 rfl rfl rfl (S0.load rfl (strs_get hx)) rfl <| ?_
      refine w0 rfl rfl rfl (S0.move rfl) rfl <| w0 rfl rfl rfl (S0.move rfl) rfl <| ?_  -- op t30 := indexAddr 40 t28 t29
      refine w0 rfl rfl rfl (S0.index1 rfl rfl hlt2) rfl <| ?_
      refine w0 rfl rfl rfl (S0.load rfl (strs_get hy)) rfl <| ?_
      refine w0 rfl rfl rfl (S0.cmpS rfl rfl rfl) rfl <| wE <| ?_  -- cond
      first | refine WP.condP rfl (fun h3 => ?_) (fun h3 => ?_) | refine WP.condN rfl (fun h3 => ?_) (fun h3 => ?_) | refine WP.cond rfl (fun h3 => ?_) (fun h3 => ?_)
      · skip
        skip
        refine WP.seq <| WP.drawP [(0, none), (1, none), (2, none), (3, none), (4, none), (5, none), (6, none), (7, none), (8, none), (9, none)] mixed (by kernel_rfl) (by kernel_rfl) (by kernel_rfl) (take1 at0 (take1 at0 take0)) <| w0 rfl rfl rfl (S0.move rfl) rfl <| w0 rfl rfl rfl (S0.move rfl) rfl <| ?_  -- op t35 := indexAddr 40 t33 t34
        refine w0 rfl rfl rfl (S0.index1 rfl rfl hlt) rfl <| ?_
        refine w0 rfl rfl rfl (S0.load rfl (strs_get hx)) rfl <| ?_
        refine w0 rfl rfl rfl (S0.move rfl) rfl <| w0 rfl rfl rfl (S0.move rfl) rfl <| ?_  -- op t39 := indexAddr 40 t37 t38
        refine w0 rfl rfl rfl (S0.index1 rfl rfl hlt2) rfl <| ?_
        refine w0 rfl rfl rfl (S0.load rfl (strs_get hy)) rfl <| ?_
        -- (nothing to walk: op t41 := call F54{rivulet/rivuletref01.Less}(t36, t40))
        refine wcd rfl rfl rfl rfl (S1.callF rfl (rless1_spec hxl hyl) take0) rfl ?_
        refine w0 rfl rfl rfl (S0.assign rfl) rfl <| wE <| WP.ret <| ?_  -- ret
        refine Leaves.drop take0 ?_
        refine r1 rfl rfl ⟨?_, rfl⟩
        rw [hinv]; simp [ltL, h3]
      · skip
        refine WP.skip <| WP.region <| v0 (S0.move rfl) rfl <| v0 (S0.ari rfl rfl rfl (wrap_i64 (by omega))) rfl <| v0 (S0.assign rfl) rfl <| vE <| ?_  -- roundend
        exact ⟨i + 1, (by first | exact ⟨hlt, hlt2, by rw [hinv]; subst h3; simp [ltL, ltS_irr]⟩ | (dsimp only; exact ⟨hlt, hlt2, by rw [hinv]; subst h3; simp [ltL, ltS_irr]⟩)), (by omega), ⟨⟨rfl, rfl, rfl, trivial⟩, rfl, rfl⟩, ⟨_, (take1 at0 (take1 at0 take0))⟩⟩
    · skip
      have e : B.drop i = [] := List.drop_eq_nil_of_le (by omega)
      refine WP.exit <| WP.seq <| WP.region <| v0 (S0.move rfl) rfl <| v0 (S0.lenSl rfl) rfl <| v0 (S0.move rfl) rfl <| v0 (S0.lenSl rfl) rfl <| v0 (S0.cmp rfl rfl rfl) rfl <| v0 (S0.assign rfl) rfl <| vE <| WP.ret <| ?_  -- ret
      refine Leaves.drop take0 ?_
      refine r1 rfl rfl ⟨?_, rfl⟩
      rw [hinv, e]
      simp [ltL]; omega
  · skip
    have e : A.drop i = [] := List.drop_eq_nil_of_le (by omega)
    refine gF rfl rfl <| gF rfl rfl <| gF rfl rfl <| gF rfl rfl <| v0 (S0.pickF rfl rfl) rfl <| vE <| WP.condF rfl <| WP.exit <| WP.seq <| WP.region <| v0 (S0.move rfl) rfl <| v0 (S0.lenSl rfl) rfl <| v0 (S0.move rfl) rfl <| v0 (S0.lenSl rfl) rfl <| v0 (S0.cmp rfl rfl rfl) rfl <| v0 (S0.assign rfl) rfl <| vE <| WP.ret <| ?_  -- ret
    refine Leaves.drop take0 ?_
    refine r1 rfl rfl ⟨?_, rfl⟩
    rw [hinv, e]
    cases hb : B.drop i with
    | nil =>
      have := List.drop_eq_nil_iff.1 hb
      simp [ltL]; omega
    | cons y t =>
      have := congrArg List.length hb
      simp at this
      simp [ltL]; omega
theorem same_spec {va vb : Value} {A B : List Str} {ca cb : List Blk} (ha : RdS va A ca) (hb : RdS vb B cb) (hl : A.length ≤ 1000000) : FN Tryz.prog 21 [va, vb] [ca, cb] (is (.bool (decide (A = B))) [ca, cb]) := by
  obtain ⟨aa, ac, rfl, -, hra⟩ := ha
  obtain ⟨ba, bc, rfl, -, hrb⟩ := hb
  refine FN.intro 26 [(0, .slice aa A.length ac), (1, .slice ba B.length bc)] Tryz.func21 rfl (enters Tryz.func21 (by kernel_rfl) rfl) Tryz.ntmps21 rfl rfl ?_
  refine WP.seq <| WP.region <| v0 (S0.assign rfl) rfl <| vE <| WP.seq <| WP.seq <| WP.region <| v0 (S0.move rfl) rfl <| v0 (S0.lenSl rfl) rfl <| v0 (S0.move rfl) rfl <| v0 (S0.lenSl rfl) rfl <| v0 (S0.cmp rfl rfl rfl) rfl <| vE <| ?_  -- cond
  first | refine WP.condP rfl (fun h1 => ?_) (fun h1 => ?_) | refine WP.condN rfl (fun h1 => ?_) (fun h1 => ?_) | refine WP.cond rfl (fun h1 => ?_) (fun h1 => ?_)
  · skip
    refine WP.seq <| WP.region <| v0 (S0.assign rfl) rfl <| vE <| WP.ret <| ?_  -- ret
    refine r1 rfl rfl ⟨?_, rfl⟩
    have : A ≠ B := fun e => h1 (by rw [e])
    simp [this]
  · skip
    have hlen : A.length = B.length := by omega
    refine WP.skip <| WP.seq <| WP.seq <| WP.region <| v0 (S0.assign rfl) rfl <| vE <| WP.block <| ?_  -- Code.loop
    refine WP.loop (fun i : Nat => i ≤ A.length ∧ A.take i = B.take i) (fun i : Nat => [(0, .slice aa A.length ac), (1, .slice ba B.length bc), (5, .int .i64 (i : Int))]) (fun i : Nat => [ca, cb]) (fun i : Nat => A.length - i) (0) (⟨Nat.zero_le _, by simp⟩) ⟨rfl, rfl, rfl, trivial⟩ ⟨_, (take1 at0 (take1 at0 take0))⟩ (fun i hinv => ?_) 
    obtain ⟨hi, hinv⟩ := hinv
    refine WP.seq <| WP.seq <| WP.region <| v0 (S0.move rfl) rfl <| v0 (S0.move rfl) rfl <| v0 (S0.lenSl rfl) rfl <| v0 (S0.cmp rfl rfl rfl) rfl <| vE <| ?_  -- cond
    first | refine WP.condP rfl (fun h2 => ?_) (fun h2 => ?_) | refine WP.condN rfl (fun h2 => ?_) (fun h2 => ?_) | refine WP.cond rfl (fun h2 => ?_) (fun h2 => ?_)
    · skip
      have hlt : i < A.length := by omega
      have hlt2 : i < B.length := by omega
      rcases hra with e | ⟨b1, o1, L1, U1, fz1, rfl, hm1, he1⟩
      · rw [e] at hlt; simp at hlt
      rcases hrb with e | ⟨b2, o2, L2, U2, fz2, rfl, hm2, he2⟩
      · rw [e] at hlt2; simp at hlt2
      have : HasC ca b1 (.cells ⟨L1⟩ U1 fz1) := ⟨hm1⟩
      have : HasC cb b2 (.cells ⟨L2⟩ U2 fz2) := ⟨hm2⟩
      have hx : A[i]? = some A[i] := by simp [hlt]
      generalize A[i] = x at hx
      have hy : B[i]? = some B[i] := by simp [hlt2]
      generalize B[i] = y at hy
      have hxe := he1 i x hx
      have hye := he2 i y hy
      skip
      refine WP.skip <| WP.seq <| WP.block <| WP.seq <| WP.drawP [(0, none), (1, none), (2, none), (3, none), (4, none), (5, none), (6, none), (7, none), (8, none)] mixed (by kernel_rfl) (by kernel_rfl) (by kernel_rfl) (take1 at0 (take1 at0 take0)) <| w0 rfl rfl rfl (S0.move rfl) rfl <| w0 rfl rfl rfl (S0.move rfl) rfl <| ?_  -- op t19 := indexAddr 40 t17 t18
      refine w0 rfl rfl rfl (S0.indexO1 rfl rfl hlt) rfl <| ?_
      refine w0 rfl rfl rfl (S0.load rfl (rdS_get hxe)) rfl <| ?_
      refine w0 rfl rfl rfl (S0.move rfl) rfl <| w0 rfl rfl rfl (S0.move rfl) rfl <| ?_  -- op t23 := indexAddr 40 t21 t22
      refine w0 rfl rfl rfl (S0.indexO1 rfl rfl hlt2) rfl <| ?_
      refine w0 rfl rfl rfl (S0.load rfl (rdS_get hye)) rfl <| ?_
      refine w0 rfl rfl rfl (S0.cmpS rfl rfl rfl) rfl <| wE <| ?_  -- cond
      first | refine WP.condP rfl (fun h3 => ?_) (fun h3 => ?_) | refine WP.condN rfl (fun h3 => ?_) (fun h3 => ?_) | refine WP.cond rfl (fun h3 => ?_) (fun h3 => ?_)
      · skip
        refine WP.seq <| WP.region <| v0 (S0.assign rfl) rfl <| vE <| WP.ret <| ?_  -- ret
        refine r1 rfl rfl ⟨?_, rfl⟩
        have : A ≠ B := fun e => h3 (by rw [e, hy] at hx; cases hx; rfl)
        simp [this]
      · skip
        refine WP.skip <| WP.region <| v0 (S0.move rfl) rfl <| v0 (S0.ari rfl rfl rfl (wrap_i64 (by omega))) rfl <| v0 (S0.assign rfl) rfl <| vE <| ?_  -- roundend
        exact ⟨i + 1, (by first | exact ⟨hlt, by subst h3; rw [List.take_add_one, List.take_add_one, hx, hy, hinv]⟩ | (dsimp only; exact ⟨hlt, by subst h3; rw [List.take_add_one, List.take_add_one, hx, hy, hinv]⟩)), (by omega), ⟨⟨rfl, rfl, rfl, trivial⟩, rfl, rfl⟩, ⟨_, (take1 at0 (take1 at0 take0))⟩⟩
    · skip
      refine WP.exit <| WP.seq <| WP.region <| v0 (S0.assign rfl) rfl <| vE <| WP.ret <| ?_  -- ret
      refine r1 rfl rfl ⟨?_, rfl⟩
      rw [List.take_of_length_le (by omega), List.take_of_length_le (by omega)] at hinv
      simp [hinv]
theorem insS_at {f : Str} : ∀ {l : List Str} {i : Nat}, i ≤ l.length → (∀ j y, j < i → l[j]? = some y → lessS y f = true) → (∀ y, l[i]? = some y → lessS y f = false) → insS l f = if l[i]? = some f then l else l.take i ++ f :: l.drop i
  | [], i, hi, _, _ => by simp at hi; subst hi; simp [insS]
  | x :: l, 0, _, _, h2 => by
    have := h2 x rfl
    simp only [insS, this, List.getElem?_cons_zero, Option.some.injEq]
    simp
  | x :: l, i + 1, hi, h1, h2 => by
    have h0 := h1 0 x (by omega) rfl
    have ih := insS_at (f := f) (l := l) (i := i) (by simpa using hi) (fun j y hj hy => h1 (j + 1) y (by omega) (by simpa using hy)) (fun y hy => h2 y (by simpa using hy))
    simp only [insS, h0, if_true, ih, List.getElem?_cons_succ]
    split <;> simp
theorem rinsert_spec {v : Value} {l : List Str} {row : List Blk} {f : Str} (hs : IsSl 9 1 v (strs l) row) (hl : l.length ≤ 1000) (hx : ∀ x ∈ l, x.length ≤ 1000) (hf : f.length ≤ 1000) :
    FN Tryz.prog 48 [v, sv f] [row] (fun u h => ∃ row2, IsSl 9 1 u (strs (insS l f)) row2 ∧ h = [row2]) := by
  have hs' := hs
  obtain ⟨a, cap, rfl, hcap, hrow⟩ := hs'.strsE
  refine FN.intro 49 [(0, .slice a l.length cap), (1, sv f)] Tryz.func48 rfl (enters Tryz.func48 (by kernel_rfl) rfl) Tryz.ntmps48 rfl rfl ?_
  refine WP.seq <| WP.region <| v0 (S0.assign rfl) rfl <| vE <| WP.seq <| WP.region <| v0 (S0.assign rfl) rfl <| vE <| WP.seq <| WP.block <| ?_  -- Code.loop
  refine WP.loop (fun i : Nat => i ≤ l.length ∧ ∀ j y, j < i → l[j]? = some y → lessS y f = true) (fun i : Nat => [(0, .slice a l.length cap), (1, sv f), (5, .int .i64 (i : Int))]) (fun i : Nat => [row]) (fun i : Nat => l.length - i) (0) (⟨Nat.zero_le _, fun j y hj => by omega⟩) ⟨rfl, rfl, rfl, trivial⟩ ⟨_, (take1 at0 take0)⟩ (fun i hinv => ?_) 
  obtain ⟨hi, hall⟩ := hinv
  refine WP.seq <| WP.seq <| WP.region <| v0 (S0.move rfl) rfl <| v0 (S0.move rfl) rfl <| v0 (S0.lenSl rfl) rfl <| v0 (S0.cmp rfl rfl rfl) rfl <| v0 (S0.move rfl) rfl <| ?_  -- guard t11 (wants True) at t12 := move t0 [if #4=True]
  first | refine csP (t := 11) rfl (fun h1 => ?_) (fun h1 => ?_) | refine csN (t := 11) rfl (fun h1 => ?_) (fun h1 => ?_) | refine cs (t := 11) rfl (fun h1 => ?_) (fun h1 => ?_)
  · skip
    have hlt : i < l.length := by omega
    rcases hrow with ⟨e, -⟩ | ⟨b1, sp1, rfl, rfl, hsp1⟩
    · rw [e] at hlt; simp at hlt
    have hg : l[i]? = some l[i] := by simp [hlt]
    have hxl := hx _ (List.getElem_mem hlt)
    generalize l[i] = x at hg hxl
    refine gT rfl <| v0 (S0.move rfl) rfl <| gT rfl <| v0 (S0.move rfl) rfl <| ?_  -- op t14 := indexAddr 40 t12 t13 [if #4=True]
    refine gT rfl <| v0 (S0.index1 rfl rfl hlt) rfl <| ?_
    refine gT rfl <| v0 (S0.load rfl (strs_get hg)) rfl <| ?_
    refine gT rfl <| v0 (S0.move rfl) rfl <| ?_  -- op t17 := call F29{rivulet/rivuletref03.Less}(t15, t16) [if #4=True]
    refine gT rfl <| vcd (S1.callF rfl (rless_spec (show x.length ≤ 100000 by omega) (show f.length ≤ 100000 by omega)) take0) rfl ?_
    refine v0 (S0.pickT rfl rfl) rfl <| vE <| ?_  -- cond
    first | refine WP.condP rfl (fun h2 => ?_) (fun h2 => ?_) | refine WP.condN rfl (fun h2 => ?_) (fun h2 => ?_) | refine WP.cond rfl (fun h2 => ?_) (fun h2 => ?_)
    · skip
      refine WP.skip <| WP.block <| WP.region <| v0 (S0.move rfl) rfl <| v0 (S0.ari rfl rfl rfl (wrap_i64 (by omega))) rfl <| v0 (S0.assign rfl) rfl <| vE <| ?_  -- roundend
      exact ⟨i + 1, (by first | exact ⟨hlt, below_at (p := fun _ y => lessS y f = true) hall hg h2⟩ | (dsimp only; exact ⟨hlt, below_at (p := fun _ y => lessS y f = true) hall hg h2⟩)), (by omega), ⟨⟨rfl, rfl, rfl, trivial⟩, rfl, rfl⟩, ⟨_, (take1 at0 take0)⟩⟩
    · skip
      have hins := insS_at (f := f) hi hall (fun y hy => by rw [hg] at hy; cases hy; simpa using h2)
      rw [hg] at hins
      refine WP.exit <| WP.seq <| WP.seq <| WP.region <| v0 (S0.move rfl) rfl <| v0 (S0.move rfl) rfl <| v0 (S0.lenSl rfl) rfl <| v0 (S0.cmp rfl rfl rfl) rfl <| v0 (S0.move rfl) rfl <| ?_  -- guard t25 (wants True) at t26 := move t0 [if #4=True]
      refine csTh (t := 25) rfl ((by simp; omega)) ?_
      refine gT rfl <| v0 (S0.move rfl) rfl <| gT rfl <| v0 (S0.move rfl) rfl <| ?_  -- op t28 := indexAddr 40 t26 t27 [if #4=True]
      refine gT rfl <| v0 (S0.index1 rfl rfl hlt) rfl <| ?_
      refine gT rfl <| v0 (S0.load rfl (strs_get hg)) rfl <| ?_
      refine gT rfl <| v0 (S0.move rfl) rfl <| gT rfl <| v0 (S0.cmpS rfl rfl rfl) rfl <| v0 (S0.pickT rfl rfl) rfl <| vE <| ?_  -- cond
      first | refine WP.condP rfl (fun h3 => ?_) (fun h3 => ?_) | refine WP.condN rfl (fun h3 => ?_) (fun h3 => ?_) | refine WP.cond rfl (fun h3 => ?_) (fun h3 => ?_)
      · skip
        refine WP.seq <| WP.region <| v0 (S0.move rfl) rfl <| v0 (S0.assign rfl) rfl <| vE <| WP.ret <| ?_  -- ret
        refine r1 rfl rfl ?_
        exact ⟨_, by rw [hins, if_pos (by rw [h3])]; exact hs, rfl⟩
      · skip
        rw [if_neg (fun e => h3 (by simpa using e))] at hins
        obtain ⟨hw, hle⟩ := strs_cut sp1 l 0 i cap (Nat.zero_le _) (by omega) hcap
        obtain ⟨hw2, hle2⟩ := strs_cut sp1 l i l.length cap (by omega) (Nat.le_refl _) hcap
        rw [List.drop_zero, Nat.sub_zero] at hw
        have htl : (l.take i).length = i := by rw [List.length_take]; omega
        have hdl : ((l.drop i).take (l.length - i)) = l.drop i := List.take_of_length_le (by simp)
        rw [hdl] at hw2
        refine WP.skip <| WP.seq <| WP.region <| vnv (S1.buildSlice rfl (qs := []) rfl rfl) rfl fun b34 => v0 (S0.move rfl) rfl <| v0 (S0.move rfl) rfl <| ?_  -- op t37 := slice 40 t35 none t36 none
        refine v0 (S0.slice (i := 0) (j := i) rfl rfl rfl ⟨Nat.zero_le _, by omega⟩) rfl <| ?_
        refine ve (S1.appendS rfl (IsSl.row (n := 0) (c := 0) (l := []) (sp := []) rfl rfl (Nat.le_refl _)) rfl hle hw at0 (strs_cv _) rfl (by rw [strs_len, htl]; simp only [List.length_nil]; omega)) rfl ?_
        rintro v2 _ ⟨row2, hs2, rfl⟩
        rw [List.nil_append] at hs2
        refine v0 (S0.assign rfl) rfl <| vE <| WP.seq <| WP.region <| v0 (S0.move rfl) rfl <| v0 (S0.move rfl) rfl <| vnv (S1.buildSlice rfl (qs := [(0, _)]) rfl rfl) rfl fun b41 => ?_  -- op t42 := append(t39, t41) :[40, 40]
        refine ve (S1.appendL rfl hs2 rfl rfl (atS at0) rfl rfl (by rw [strs_len, htl]; simp; omega)) rfl ?_
        rintro v3 _ ⟨row3, hs3, rfl⟩
        refine v0 (S0.assign rfl) rfl <| vE <| WP.seq <| WP.region <| v0 (S0.move rfl) rfl <| v0 (S0.move rfl) rfl <| v0 (S0.move rfl) rfl <| ?_  -- op t46 := slice 40 t44 t45 none none
        refine v0 (S0.slice (i := i) (j := l.length) rfl rfl rfl ⟨by omega, hcap⟩) rfl <| ?_
        refine ve (S1.appendS rfl hs3 rfl hle2 hw2 at0 (strs_cv _) rfl (by rw [List.length_append, strs_len, htl, strs_len]; simp; omega)) rfl ?_
        rintro v4 _ ⟨row4, hs4, rfl⟩
        refine v0 (S0.assign rfl) rfl <| vE <| WP.seq <| WP.region <| v0 (S0.move rfl) rfl <| v0 (S0.assign rfl) rfl <| vE <| WP.ret <| ?_  -- ret
        refine Leaves.drop (take1 at0 take0) ?_
        refine r1 rfl rfl ?_
        refine ⟨row4, ?_, rfl⟩
        rw [hins]
        simpa [strs] using hs4
  · skip
    have e : i = l.length := by omega
    subst e
    have hins := insS_at (f := f) (Nat.le_refl _) hall (fun y hy => by simp at hy)
    rw [if_neg (by simp), List.take_length, List.drop_length] at hins
    refine gF rfl rfl <| gF rfl rfl <| gF rfl rfl <| gF rfl rfl <| gF rfl rfl <| gF rfl rfl <| v0 (S0.pickF rfl rfl) rfl <| vE <| WP.condF rfl <| WP.exit <| WP.seq <| WP.seq <| WP.region <| v0 (S0.move rfl) rfl <| v0 (S0.move rfl) rfl <| v0 (S0.lenSl rfl) rfl <| v0 (S0.cmp rfl rfl rfl) rfl <| v0 (S0.move rfl) rfl <| ?_  -- guard t25 (wants True) at t26 := move t0 [if #4=True]
    refine csFh (t := 25) rfl ((by simp)) ?_
    refine gF rfl rfl <| gF rfl rfl <| gF rfl rfl <| gF rfl rfl <| gF rfl rfl <| gF rfl rfl <| v0 (S0.pickF rfl rfl) rfl <| vE <| WP.condF rfl <| WP.skip <| WP.seq <| WP.region <| vnv (S1.buildSlice rfl (qs := []) rfl rfl) rfl fun b34 => v0 (S0.move rfl) rfl <| v0 (S0.move rfl) rfl <| ?_  -- op t37 := slice 40 t35 none t36 none
    obtain ⟨-, -, hc1⟩ := hs.rdS.cutG 0 l.length (Nat.zero_le _) (Nat.le_refl _)
    obtain ⟨-, -, hc2⟩ := hs.rdS.cutG l.length l.length (Nat.le_refl _) (Nat.le_refl _)
    refine v0 (S0.sliceG (i := 0) (j := l.length) rfl rfl rfl ⟨Nat.zero_le _, hcap⟩) rfl <| ?_
    refine ve (S1.appendRd rfl (IsSl.row (n := 0) (c := 0) (l := []) (sp := []) rfl rfl (Nat.le_refl _)) rfl hc1 (fun q hq => List.mem_flatten.2 ⟨_, by simp, hq⟩) at0 rfl (by simp; omega)) rfl ?_
    rintro v2 _ ⟨row2, hs2, rfl⟩
    rw [List.nil_append] at hs2
    refine v0 (S0.assign rfl) rfl <| vE <| WP.seq <| WP.region <| v0 (S0.move rfl) rfl <| v0 (S0.move rfl) rfl <| vnv (S1.buildSlice rfl (qs := [(0, _)]) rfl rfl) rfl fun b41 => ?_  -- op t42 := append(t39, t41) :[40, 40]
    refine ve (S1.appendL rfl hs2 rfl rfl (atS at0) rfl rfl (by rw [strs_len]; simp; omega)) rfl ?_
    rintro v3 _ ⟨row3, hs3, rfl⟩
    refine v0 (S0.assign rfl) rfl <| vE <| WP.seq <| WP.region <| v0 (S0.move rfl) rfl <| v0 (S0.move rfl) rfl <| v0 (S0.move rfl) rfl <| ?_  -- op t46 := slice 40 t44 t45 none none
    refine v0 (S0.sliceG (i := l.length) (j := l.length) rfl rfl rfl ⟨Nat.le_refl _, hcap⟩) rfl <| ?_
    refine ve (S1.appendRd rfl hs3 rfl hc2 (fun q hq => List.mem_flatten.2 ⟨_, by simp, hq⟩) at0 rfl (by rw [List.length_append, strs_len]; simp; omega)) rfl ?_
    rintro v4 _ ⟨row4, hs4, rfl⟩
    refine v0 (S0.assign rfl) rfl <| vE <| WP.seq <| WP.region <| v0 (S0.move rfl) rfl <| v0 (S0.assign rfl) rfl <| vE <| WP.ret <| ?_  -- ret
    refine Leaves.drop (take1 at0 take0) ?_
    refine r1 rfl rfl ?_
    refine ⟨row4, ?_, rfl⟩
    rw [hins]
    simpa [strs] using hs4
end Go.Proofs.YtmkgokjfkmbcoaaGreatDoor
/- T11 -/
/-
  The document's asks as a row: where one stands, what is changed and taken away there.
-/
namespace Go.Proofs.YtmkgokjfkmbcoaaGreatDoor
open Go

abbrev enK (x : Str × Int × Int) : List Value := [sv x.1, .int .i64 x.2.1, .int .i64 x.2.2]
theorem enK_len (x : Str × Int × Int) : (enK x).length = 2 + 1 := rfl
def isK (f : Str) (i : Int) (x : Str × Int × Int) : Bool := decide (x.1 = f ∧ x.2.1 = i)
theorem has_idx : ∀ (L : Asks) (f : Str) (i : Int), match L.findIdx? (isK f i) with | some k => ∃ n, L[k]? = some (f, i, n) ∧ hasK L f i = n | none => hasK L f i = 0 ∧ ¬ ∃ x ∈ L, x.1 = f ∧ x.2.1 = i
  | [], f, i => by simp [hasK]
  | (g, j, n) :: L, f, i => by
    have ih := has_idx L f i
    rw [List.findIdx?_cons]
    by_cases e : g = f ∧ j = i
    · have h1 : isK f i (g, j, n) = true := by simp [isK, e]
      simp only [h1, if_true, hasK, if_pos e]
      exact ⟨n, by rw [e.1, e.2]; rfl, rfl⟩
    · have h1 : isK f i (g, j, n) = false := by simp only [isK]; exact decide_eq_false e
      simp only [h1, Bool.false_eq_true, if_false, hasK, if_neg e]
      cases hf : L.findIdx? (isK f i) with
      | none =>
        rw [hf] at ih
        simp only [Option.map_none]
        refine ⟨ih.1, ?_⟩
        rintro ⟨x, hx, h2⟩
        rcases List.mem_cons.1 hx with rfl | hx
        · exact e h2
        · exact ih.2 ⟨x, hx, h2⟩
      | some k =>
        rw [hf] at ih
        simpa using ih
theorem key_uniq {L : Asks} (h : (L.map fun x => (x.1, x.2.1)).Nodup) {k j : Nat} {x y : Str × Int × Int} (hk : L[k]? = some x) (hj : L[j]? = some y) (e1 : x.1 = y.1) (e2 : x.2.1 = y.2.1) : k = j := by
  obtain ⟨hk1, hk2⟩ := List.getElem?_eq_some_iff.1 hk
  obtain ⟨hj1, hj2⟩ := List.getElem?_eq_some_iff.1 hj
  have hp := List.pairwise_iff_getElem.1 (List.nodup_iff_pairwise_ne.1 h)
  rcases Nat.lt_trichotomy k j with h1 | h1 | h1
  · have := hp k j (by simpa using hk1) (by simpa using hj1) h1
    simp only [List.getElem_map, hk2, hj2] at this
    exact absurd (by rw [e1, e2]) this
  · exact h1
  · have := hp j k (by simpa using hj1) (by simpa using hk1) h1
    simp only [List.getElem_map, hk2, hj2] at this
    exact absurd (by rw [e1, e2]) this
theorem map_at {L : Asks} (h : (L.map fun x => (x.1, x.2.1)).Nodup) {k : Nat} {f : Str} {i n : Int} (hk : L[k]? = some (f, i, n)) (c : Int → Int) :
    (L.map fun x => if x.1 = f ∧ x.2.1 = i then (f, i, c x.2.2) else x) = L.set k (f, i, c n) := by
  apply List.ext_getElem?
  intro j
  rw [List.getElem?_map, List.getElem?_set]
  by_cases e : k = j
  · subst e
    have hlt := (List.getElem?_eq_some_iff.1 hk).1
    rw [hk]
    simp [hlt]
  · rw [if_neg e]
    cases hj : L[j]? with
    | none => rfl
    | some y =>
      simp only [Option.map_some, Option.some.injEq]
      rw [if_neg]
      rintro ⟨h1, h2⟩
      exact e (key_uniq h hk hj h1.symm h2.symm)
theorem filter_at {L : Asks} (h : (L.map fun x => (x.1, x.2.1)).Nodup) {k : Nat} {f : Str} {i n : Int} (hk : L[k]? = some (f, i, n)) :
    (L.filter fun x => !decide (x.1 = f ∧ x.2.1 = i)) = L.take k ++ L.drop (k + 1) := by
  obtain ⟨hlt, -⟩ := List.getElem?_eq_some_iff.1 hk
  have hs : L = L.take k ++ ((f, i, n) :: L.drop (k + 1)) := by
    rw [← (List.getElem?_eq_some_iff.1 hk).2, ← List.drop_eq_getElem_cons hlt, List.take_append_drop]
  have ho : ∀ j y, L[j]? = some y → j ≠ k → (!decide (y.1 = f ∧ y.2.1 = i)) = true := fun j y hj hne => by
    simp only [Bool.not_eq_true', decide_eq_false_iff_not]
    rintro ⟨h1, h2⟩
    exact hne (key_uniq h hj hk h1 h2)
  have h1 : (L.take k).filter (fun x => !decide (x.1 = f ∧ x.2.1 = i)) = L.take k := List.filter_eq_self.2 fun y hy => by
    obtain ⟨j, hj, rfl⟩ := List.getElem_of_mem hy
    rw [List.length_take] at hj
    exact ho j _ (by rw [List.getElem_take]; simp [show j < L.length by omega]) (by omega)
  have h2 : (L.drop (k + 1)).filter (fun x => !decide (x.1 = f ∧ x.2.1 = i)) = L.drop (k + 1) := List.filter_eq_self.2 fun y hy => by
    obtain ⟨j, hj, rfl⟩ := List.getElem_of_mem hy
    rw [List.length_drop] at hj
    exact ho (k + 1 + j) _ (by rw [List.getElem_drop]; simp [show k + 1 + j < L.length by omega]) (by omega)
  have h3 : (!decide ((f, i, n).1 = f ∧ (f, i, n).2.1 = i)) = false := by simp
  rw [hs, List.filter_append, List.filter_cons, h3, h1, h2]
  simp only [Bool.false_eq_true, if_false]
  rw [← hs]
end Go.Proofs.YtmkgokjfkmbcoaaGreatDoor
/- R1 -/
namespace Go.Proofs.YtmkgokjfkmbcoaaGreatDoor
open Go

/-- the document's trie at block rb has the asks L -/
def IsRT (rb : Nat) (L : Asks) (c : List Blk) : Prop := ∃ v row, IsSl 74 3 v (L.flatMap enK) row ∧ c = (rb, cel [v] 29) :: row
theorem place_spec {rb : Nat} {L : Asks} {c : List Blk} (hc : IsRT rb L c) (hl : L.length ≤ 1000000) (f : Str) (i : Int) :
    FN Tryz.prog 50 [.pointer (some ⟨rb, 0, none⟩), sv f, .int .i64 i] [c] (is (.int .i64 (idxP (isK f i) L)) [c]) := by
  obtain ⟨v, row, hsl, rfl⟩ := hc
  obtain ⟨a, cap, rfl, hcap, hrow⟩ := IsSl.elems (k := 2) enK_len hsl
  refine FN.intro 40 [(0, .pointer (some ⟨rb, 0, none⟩)), (1, sv f), (2, .int .i64 i)] Tryz.func50 rfl (enters Tryz.func50 (by kernel_rfl) rfl) Tryz.ntmps50 rfl rfl ?_
  refine WP.seq <| WP.region <| v0 (S0.assign rfl) rfl <| vE <| WP.seq <| WP.seq <| WP.region <| v0 (S0.assign rfl) rfl <| vE <| WP.block <| ?_  -- Code.loop
  refine WP.loop (fun k : Nat => k ≤ L.length ∧ ∀ j y, j < k → L[j]? = some y → isK f i y = false) (fun k : Nat => [(0, .pointer (some ⟨rb, 0, none⟩)), (1, sv f), (2, .int .i64 i), (7, .int .i64 (k : Int))]) (fun k : Nat => [(rb, cel [.slice a L.length cap] 29) :: row]) (fun k : Nat => L.length - k) (0) (⟨Nat.zero_le _, fun j y hj => by omega⟩) ⟨rfl, rfl, rfl, rfl, trivial⟩ ⟨_, (take1 at0 take0)⟩ (fun k hinv => ?_) 
  obtain ⟨hk, hno⟩ := hinv
  refine WP.seq <| WP.seq <| WP.region <| v0 (S0.move rfl) rfl <| v0 (S0.move rfl) rfl <| v0 (S0.nilCheck rfl) rfl <| v0 (S0.fieldAddr rfl) rfl <| v0 (S0.load rfl rfl) rfl <| v0 (S0.lenSl rfl) rfl <| v0 (S0.cmp rfl rfl rfl) rfl <| vE <| ?_  -- cond
  first | refine WP.condP rfl (fun h1 => ?_) (fun h1 => ?_) | refine WP.condN rfl (fun h1 => ?_) (fun h1 => ?_) | refine WP.cond rfl (fun h1 => ?_) (fun h1 => ?_)
  · skip
    have hlt : k < L.length := by omega
    rcases hrow with ⟨e, -⟩ | ⟨b1, sp1, rfl, rfl, hsp1⟩
    · rw [e] at hlt; simp at hlt
    have hx : L[k]? = some L[k] := by simp [hlt]
    generalize L[k] = x at hx
    refine WP.skip <| WP.seq <| WP.block <| WP.seq <| WP.region <| v0 (S0.move rfl) rfl <| v0 (S0.nilCheck rfl) rfl <| v0 (S0.fieldAddr rfl) rfl <| v0 (S0.load rfl rfl) rfl <| v0 (S0.move rfl) rfl <| ?_  -- op t22 := indexAddr 27 t20 t21
    refine v0 (S0.indexN (k := 3) rfl rfl hlt) rfl <| ?_
    refine v0 (S0.fieldAddr rfl) rfl <| ?_  -- limit
    refine v0 (S0.load rfl (flat_get enK_len sp1 L k 0 x hx (by decide))) rfl <| ?_
    refine v0 (S0.move rfl) rfl <| v0 (S0.cmpS rfl rfl rfl) rfl <| v0 (S0.move rfl) rfl <| ?_  -- guard t27 (wants True) at t28 := move t0 [if #10=True]
    first | refine csP (t := 27) rfl (fun h2 => ?_) (fun h2 => ?_) | refine csN (t := 27) rfl (fun h2 => ?_) (fun h2 => ?_) | refine cs (t := 27) rfl (fun h2 => ?_) (fun h2 => ?_)
    · skip
      refine gT rfl <| v0 (S0.move rfl) rfl <| gT rfl <| v0 (S0.nilCheck rfl) rfl <| gT rfl <| v0 (S0.fieldAddr rfl) rfl <| gT rfl <| v0 (S0.load rfl rfl) rfl <| gT rfl <| v0 (S0.move rfl) rfl <| ?_  -- op t33 := indexAddr 27 t31 t32 [if #10=True]
      refine gT rfl <| v0 (S0.indexN (k := 3) rfl rfl hlt) rfl <| ?_
      refine gT rfl <| v0 (S0.fieldAddr rfl) rfl <| ?_  -- limit
      refine gT rfl <| v0 (S0.load rfl (flat_get enK_len sp1 L k 1 x hx (by decide))) rfl <| ?_
      refine gT rfl <| v0 (S0.move rfl) rfl <| gT rfl <| v0 (S0.cmp rfl rfl rfl) rfl <| v0 (S0.pickT rfl rfl) rfl <| vE <| ?_  -- cond
      first | refine WP.condP rfl (fun h3 => ?_) (fun h3 => ?_) | refine WP.condN rfl (fun h3 => ?_) (fun h3 => ?_) | refine WP.cond rfl (fun h3 => ?_) (fun h3 => ?_)
      · skip
        refine WP.seq <| WP.region <| v0 (S0.move rfl) rfl <| v0 (S0.assign rfl) rfl <| vE <| WP.ret <| ?_  -- ret
        refine r1 rfl rfl ⟨?_, rfl⟩
        rw [idxP_at hno hx (by simp [isK, h2, h3])]
      · skip
        refine WP.skip <| WP.region <| v0 (S0.move rfl) rfl <| v0 (S0.ari rfl rfl rfl (wrap_i64 (by omega))) rfl <| v0 (S0.assign rfl) rfl <| vE <| ?_  -- roundend
        exact ⟨k + 1, (by first | exact ⟨hlt, below_at (p := fun _ y => isK f i y = false) hno hx (by simp [isK, h3])⟩ | (dsimp only; exact ⟨hlt, below_at (p := fun _ y => isK f i y = false) hno hx (by simp [isK, h3])⟩)), (by omega), ⟨⟨rfl, rfl, rfl, rfl, trivial⟩, rfl, rfl⟩, ⟨_, (take1 at0 take0)⟩⟩
    · skip
      refine gF rfl rfl <| gF rfl rfl <| gF rfl rfl <| gF rfl rfl <| gF rfl rfl <| gF rfl rfl <| gF rfl rfl <| gF rfl rfl <| gF rfl rfl <| gF rfl rfl <| v0 (S0.pickF rfl rfl) rfl <| vE <| WP.condF rfl <| WP.skip <| WP.region <| v0 (S0.move rfl) rfl <| v0 (S0.ari rfl rfl rfl (wrap_i64 (by omega))) rfl <| v0 (S0.assign rfl) rfl <| vE <| ?_  -- roundend
      exact ⟨k + 1, (by first | exact ⟨hlt, below_at (p := fun _ y => isK f i y = false) hno hx (by simp [isK, h2])⟩ | (dsimp only; exact ⟨hlt, below_at (p := fun _ y => isK f i y = false) hno hx (by simp [isK, h2])⟩)), (by omega), ⟨⟨rfl, rfl, rfl, rfl, trivial⟩, rfl, rfl⟩, ⟨_, (take1 at0 take0)⟩⟩
  · skip
    refine WP.exit <| WP.seq <| WP.region <| v0 (S0.assign rfl) rfl <| vE <| WP.ret <| ?_  -- ret
    refine r1 rfl rfl ⟨?_, rfl⟩
    rw [idxP_none fun j y hj => hno j y (by omega)]
theorem idx_has (L : Asks) (f : Str) (i : Int) : (idxP (isK f i) L = -1 ∧ hasK L f i = 0 ∧ ¬ ∃ x ∈ L, x.1 = f ∧ x.2.1 = i) ∨ ∃ (k : Nat) (n : Int), idxP (isK f i) L = (k : Int) ∧ L[k]? = some (f, i, n) ∧ hasK L f i = n := by
  have := has_idx L f i
  unfold idxP
  cases h : L.findIdx? (isK f i) with
  | none => rw [h] at this; exact .inl ⟨rfl, this.1, this.2⟩
  | some k => rw [h] at this; obtain ⟨n, h1, h2⟩ := this; exact .inr ⟨k, n, rfl, h1, h2⟩
theorem rhas_spec {rb : Nat} {L : Asks} {c : List Blk} (hc : IsRT rb L c) (hl : L.length ≤ 1000000) (f : Str) (i : Int) :
    FN Tryz.prog 26 [.pointer (some ⟨rb, 0, none⟩), sv f, .int .i64 i] [c] (is (.int .i64 (hasK L f i)) [c]) := by
  have hpl := place_spec hc hl f i
  obtain ⟨v, row, hsl, rfl⟩ := hc
  obtain ⟨a, cap, rfl, hcap, hrow⟩ := IsSl.elems (k := 2) enK_len hsl
  refine FN.intro 22 [(0, .pointer (some ⟨rb, 0, none⟩)), (1, sv f), (2, .int .i64 i)] Tryz.func26 rfl (enters Tryz.func26 (by kernel_rfl) rfl) Tryz.ntmps26 rfl rfl ?_
  refine WP.seq <| WP.region <| v0 (S0.assign rfl) rfl <| vE <| WP.seq <| WP.region <| v0 (S0.move rfl) rfl <| v0 (S0.move rfl) rfl <| v0 (S0.move rfl) rfl <| ?_  -- op t11 := call F50{(*rivulet/rivuletref04.Trie).place}(t8, t9, t10)
  refine vcd (S1.callF rfl (hpl) (take1 at0 take0)) rfl ?_
  skip
  rcases idx_has L f i with ⟨e1, e2, -⟩ | ⟨k, n, e1, e2, e3⟩
  · rw [e1, e2]
    skip
    refine v0 (S0.assign rfl) rfl <| vE <| WP.seq <| WP.seq <| WP.region <| v0 (S0.move rfl) rfl <| v0 (S0.cmp rfl rfl rfl) rfl <| vE <| ?_  -- cond
    refine WP.condTh rfl (rfl) ?_
    refine WP.seq <| WP.region <| v0 (S0.assign rfl) rfl <| vE <| WP.ret <| ?_  -- ret
    refine r1 rfl rfl ⟨?_, rfl⟩
    rfl
  · rw [e1, e3]
    have hlt := (List.getElem?_eq_some_iff.1 e2).1
    rcases hrow with ⟨e, -⟩ | ⟨b1, sp1, rfl, rfl, hsp1⟩
    · rw [e] at hlt; simp at hlt
    skip
    refine v0 (S0.assign rfl) rfl <| vE <| WP.seq <| WP.seq <| WP.region <| v0 (S0.move rfl) rfl <| v0 (S0.cmp rfl rfl rfl) rfl <| vE <| ?_  -- cond
    refine WP.condFh rfl ((decide_eq_false (by omega))) ?_
    refine WP.skip <| WP.seq <| WP.region <| v0 (S0.move rfl) rfl <| v0 (S0.nilCheck rfl) rfl <| v0 (S0.fieldAddr rfl) rfl <| v0 (S0.load rfl rfl) rfl <| v0 (S0.move rfl) rfl <| ?_  -- op t19 := indexAddr 27 t17 t18
    refine v0 (S0.indexN (k := 3) rfl rfl hlt) rfl <| ?_
    refine v0 (S0.fieldAddr rfl) rfl <| ?_  -- limit
    refine v0 (S0.load rfl (flat_get enK_len sp1 L k 2 _ e2 (by decide))) rfl <| ?_
    refine v0 (S0.assign rfl) rfl <| vE <| WP.ret <| ?_  -- ret
    refine r1 rfl rfl ⟨?_, rfl⟩
    rfl
end Go.Proofs.YtmkgokjfkmbcoaaGreatDoor
/- RdG -/
/-
  'append(x, y...)': y read, elements of whatever kind.
-/
namespace Go.Proofs.YtmkgokjfkmbcoaaGreatDoor
open Go

theorem rd_all {α : Type} {en : α → List Value} {k : Nat} {L : List Value} (hk : ∀ x, (en x).length = k + 1) : ∀ {R : List α} {o : Nat}, (∀ i x, R[i]? = some x → (L.drop (o + i * (k + 1))).take (k + 1) = en x) → R ≠ [] →
    (L.drop o).take (R.length * (k + 1)) = R.flatMap en ∧ o + R.length * (k + 1) ≤ L.length
  | [], _, _, h => absurd rfl h
  | x :: R, o, h, _ => by
    have h0 := h 0 x rfl
    simp only [Nat.zero_mul, Nat.add_zero] at h0
    have hlen : o + (k + 1) ≤ L.length := by
      have := congrArg List.length h0
      rw [hk, List.length_take, List.length_drop] at this
      omega
    by_cases hR : R = []
    · subst hR
      refine ⟨?_, by simpa using hlen⟩
      simp only [List.length_cons, List.length_nil, List.flatMap_cons, List.flatMap_nil, List.append_nil, Nat.zero_add, Nat.one_mul]
      exact h0
    · obtain ⟨h1, h2⟩ := rd_all hk (R := R) (o := o + (k + 1)) (fun i y hy => by
        have := h (i + 1) y hy
        rw [Nat.succ_mul, Nat.add_comm (i * (k + 1)), ← Nat.add_assoc] at this
        exact this) hR
      refine ⟨?_, ?_⟩
      · rw [List.length_cons, Nat.succ_mul, Nat.add_comm, List.take_add, h0, List.drop_drop, List.flatMap_cons, h1]
      · rw [List.length_cons, Nat.succ_mul]; omega
section
variable {P : Program} {r : Option Nat} {f : Fr} {h : Hp} {d : Option Tmp} {ty : TypeId} {p : String} {af : Array Edge} {gd : Option (Nat × Bool)} {T E T2 E2 : TypeId} {x y : Operand} {k by_ : Nat} {zv v u : Value}
theorem S1.appendR {α : Type} {en : α → List Value} (hk : ∀ x, (en x).length = k + 1) (hcv : ∀ x, (en x).all cellV = true) {R : List α} {l : List Value} {c0 c : List Blk} {hr : Hp} [kk : Und P T (.slice E)] [k2 : Und P T2 (.slice E2)] [ki : Inf P E (k + 1) by_ zv]
    (hx : ev f x = some v) (hs : IsSl E (k + 1) v l c) (hy : ev f y = some u) (hu : Rd (k + 1) en u R c0) (hin : ∀ q ∈ c0, q ∈ h.flatten)
    (hp : h.flatten.Perm (c ++ hr.flatten)) (hz : zv.cells.size = k + 1) (hroom : l.length + R.length * (k + 1) ≤ 1000000000) (hb : by_ ≤ 100000 := by decide) :
    S1 P r ⟨d, .call ⟨.builtin .append, #[x, y], #[T, T2]⟩, ty, p, af, gd⟩ f h (fun v' h' => ∃ c', IsSl E (k + 1) v' (l ++ R.flatMap en) c' ∧ h' = c' :: hr) := by
  have hsl : (R.flatMap en).length = R.length * (k + 1) := flat_len hk R
  have hrm : (l.length + (R.flatMap en).length) * by_ ≤ 140737488355328 ∧ l.length + (R.flatMap en).length < 4611686018427387904 := ⟨by
    rw [hsl]
    have := Nat.mul_le_mul hroom hb
    omega, by omega⟩
  obtain ⟨a, cap, rfl, hcap, hu⟩ := hu
  by_cases hR : R = []
  · subst hR
    simp only [List.flatMap_nil, List.append_nil]
    refine S1.ofRun (by intro c; simp) fun E' R' ρ w k' st => ?_
    have hexec : execOp ρ ⟨d, .call ⟨.builtin .append, #[x, y], #[T, T2]⟩, ty, p, af, gd⟩ = (do pure (.value (← Builtin.append_ #[T, T2] ty #[v, .slice a 0 cap]))) := by
      simp only [execOp, resolve, invoke, builtin]
      simp [k' _ _ hx, k' _ _ hy]
    have hf : (Builtin.firstCells (k + 1) 0 (.slice a 0 cap)).run P w = .ok ⟨[]⟩ w := by
      cases a <;> simp [Builtin.firstCells, loadCells, loadCellsFrom]
    refine ⟨v, _, w, ?_, ⟨c, hs, rfl⟩, by simpa using st.perm (hp.append_right R')⟩
    rw [hexec]
    obtain ⟨ab, n, cp, rfl, hle⟩ : ∃ ab n cp, v = .slice ab n cp ∧ n ≤ cp := by
      cases hs with
      | nil => exact ⟨_, _, _, rfl, Nat.le_refl _⟩
      | row _ _ h3 => exact ⟨_, _, _, rfl, h3⟩
    have := run_append_in (P := P) (ty := ty) (T := T) (T2 := T2) (E := E) (E2 := E2) (k := k + 1) (by_ := by_) (zv := zv) (w := w) (base := ab) (n := n) (c := cp) (m := 0) (ws := []) ⟨a, cap, rfl⟩ hf (by omega) (w' := w) (by cases ab <;> rfl)
    simp [this]
  · rcases hu with e | ⟨b, o, L, U, fz, rfl, hm, hel⟩
    · exact absurd e hR
    obtain ⟨h1, h2⟩ := rd_all hk hel hR
    have h3 := S1.append (P := P) (r := r) (d := d) (ty := ty) (p := p) (af := af) (gd := gd) (T := T) (T2 := T2) (E2 := E2) (kk := kk) (k2 := k2) (ki := ki) hx hs hy (ws := R.flatMap en) (m := R.length) (.inr ⟨b, o, cap, L, U, fz, rfl, hin _ hm, h2, h1⟩) hp (flat_cv hcv R) hz hrm
    exact ⟨fun E' R a w next Q hxx st kont => h3.run E' R a w next Q hxx st fun v h' w' hpost st' => by
      obtain ⟨c', h2, -, h3⟩ := hpost
      exact kont v h' w' ⟨c', h2, h3⟩ st'⟩
end
/-- integers that are read -/
abbrev RdI (v : Value) (R : List Int) (c : List Blk) : Prop := Rd 1 (fun x : Int => [Value.int .i64 x]) v R c
theorem IsSl.rdI {E : TypeId} {R : List Int} {v : Value} {row : List Blk} (h : IsSl E 1 v (ints R) row) : RdI v R row := by
  rw [ints_flat] at h
  exact IsSl.rd (k := 0) (fun _ => rfl) h
end Go.Proofs.YtmkgokjfkmbcoaaGreatDoor
/- R2 -/
namespace Go.Proofs.YtmkgokjfkmbcoaaGreatDoor
open Go

theorem radd_spec {rb : Nat} {L : Asks} {c : List Blk} {m : Nat} (hc : IsRT rb L c) (hok : AsksOk L) (hb : AskB L m) (hm : m ≤ 100000) {f : Str} (hf : f.length ≤ 1000) (i : Int) :
    FN Tryz.prog 37 [.pointer (some ⟨rb, 0, none⟩), sv f, .int .i64 i] [c] (fun v h => ∃ c', v = .tuple ⟨[.int .i64 (addV L f i), .int .i64 (addE f i)]⟩ ∧ IsRT rb (addR L f i) c' ∧ h = [c']) := by
  have hc0 := hc
  have hbl := hb.len
  have hpl := place_spec hc (by omega) f i
  obtain ⟨v, row, hsl, rfl⟩ := hc
  refine FN.intro 61 [(0, .pointer (some ⟨rb, 0, none⟩)), (1, sv f), (2, .int .i64 i)] Tryz.func37 rfl (enters Tryz.func37 (by kernel_rfl) rfl) Tryz.ntmps37 rfl rfl ?_
  refine WP.seq <| WP.region <| v0 (S0.assign rfl) rfl <| v0 (S0.assign rfl) rfl <| vE <| WP.seq <| WP.seq <| WP.region <| v0 (S0.move rfl) rfl <| ?_  -- op t10 := call F31{rivulet/rivuletref03.Filter}(t9)
  refine vcd (S1.callF rfl (rfilter_spec (show f.length ≤ 900000 by omega)) take0) rfl ?_
  refine v0 (S0.not rfl) rfl <| v0 (S0.move rfl) rfl <| ?_  -- guard t12 (wants False) at t13 := move t2 [if #3=False]
  have bad : okA f i = false → ∃ c', Value.tuple ⟨[.int .i64 0, .int .i64 1]⟩ = .tuple ⟨[.int .i64 (addV L f i), .int .i64 (addE f i)]⟩ ∧ IsRT rb (addR L f i) c' ∧ [(rb, cel [v] 29) :: row] = [c'] := fun e => ⟨_, by simp [addV, addE, e], by simpa [addR, e] using hc0, rfl⟩
  skip
  by_cases hF : filtS f = true
  · skip
    refine csFh (t := 12) rfl ((by simp [hF])) ?_
    refine gT rfl <| v0 (S0.move rfl) rfl <| gT rfl <| v0 (S0.cmp rfl rfl rfl) rfl <| v0 (S0.pickF rfl rfl) rfl <| vE <| ?_  -- cond
    first | refine WP.condP rfl (fun hi => ?_) (fun hi => ?_) | refine WP.condN rfl (fun hi => ?_) (fun hi => ?_) | refine WP.cond rfl (fun hi => ?_) (fun hi => ?_)
    · skip
      refine WP.seq <| WP.region <| v0 (S0.assign rfl) rfl <| v0 (S0.assign rfl) rfl <| vE <| WP.ret <| ?_  -- ret
      refine r2 rfl rfl rfl ?_
      exact bad (by simp [okA]; omega)
    · skip
      have hoka : okA f i = true := by simp [okA, hF]; omega
      have haR : addR L f i = addK L f i := by rw [addR, if_pos hoka]
      have haV : Value.tuple ⟨[.int .i64 (hasK L f i + 1), .int .i64 0]⟩ = .tuple ⟨[.int .i64 (addV L f i), .int .i64 (addE f i)]⟩ := by rw [addV, if_pos hoka, addE, if_pos hoka]
      rw [haR, ← haV]
      have hhas := hb.has f i
      have hnn := has_nonneg hok f i
      refine WP.skip <| WP.seq <| WP.seq <| WP.region <| v0 (S0.move rfl) rfl <| v0 (S0.move rfl) rfl <| v0 (S0.move rfl) rfl <| ?_  -- op t19 := call F50{(*rivulet/rivuletref04.Trie).place}(t16, t17, t18)
      refine vcd (S1.callF rfl (hpl) (take1 at0 take0)) rfl ?_
      refine v0 (S0.cmp rfl rfl rfl) rfl <| vE <| ?_  -- cut
      refine WP.cutT (fun s : Asks × Nat × Value × List Blk => IsSl 74 3 s.2.2.1 (s.1.flatMap enK) s.2.2.2 ∧ s.1[s.2.1]? = some (f, i, hasK L f i) ∧ idxP (isK f i) s.1 = (s.2.1 : Int) ∧ s.1.set s.2.1 (f, i, hasK L f i + 1) = addK L f i ∧ s.1.length ≤ L.length + 1) (fun s : Asks × Nat × Value × List Blk => [(0, .pointer (some ⟨rb, 0, none⟩)), (1, sv f), (2, .int .i64 i)]) (fun s : Asks × Nat × Value × List Blk => [(rb, cel [s.2.2.1] 29) :: s.2.2.2]) ?_ (fun s hinv => ?_)
      · skip
        rcases idx_has L f i with ⟨e1, e2, e3⟩ | ⟨k, n, e1, e2, e3⟩
        · have hset : (L ++ [(f, i, 0)]).set L.length (f, i, hasK L f i + 1) = addK L f i := by
            rw [e2, addK, if_pos e2, List.set_append_right _ _ (Nat.le_refl _)]; simp
          have hidx : idxP (isK f i) (L ++ [(f, i, 0)]) = (L.length : Int) := idxP_at (x := (f, i, 0)) (fun j y hj hy => by
            rw [List.getElem?_append_left hj] at hy
            have : ¬ (y.1 = f ∧ y.2.1 = i) := fun h => e3 ⟨y, List.mem_of_getElem? hy, h⟩
            simpa [isK] using this) (by simp) (by simp [isK])
          rw [e1]
          skip
          refine WP.condTh rfl (rfl) ?_
          refine WP.perm (h' := [[(rb, cel [v] 29)], row]) (k := []) (by simp) ?_
          refine WP.region <| v0 (S0.move rfl) rfl <| v0 (S0.move rfl) rfl <| v0 (S0.nilCheck rfl) rfl <| v0 (S0.fieldAddr rfl) rfl <| v0 (S0.load rfl rfl) rfl <| v0 (S0.move rfl) rfl <| v0 (S0.move rfl) rfl <| v0 (S0.build rfl (qs := [(0, _), (1, _)]) rfl) rfl <| vnv (S1.buildSlice rfl (qs := [(0, _)]) rfl rfl) rfl fun b29 => ?_  -- op t30 := append(t25, t29) :[27, 27]
          refine ve (S1.appendL rfl hsl rfl rfl (atS (atS at0)) rfl rfl (by rw [flat_len enK_len]; simp; omega)) rfl ?_
          rintro v2 _ ⟨row2, hs2, rfl⟩
          refine v0 (S0.nilCheck rfl) rfl <| v0 (S0.fieldAddr rfl) rfl <| ?_  -- limit
          refine vs (S1.store rfl rfl hs2.cv) <| ?_
          refine vE <| ?_  -- cutend
          exact ⟨(L ++ [(f, i, 0)], L.length, v2, row2), (by first | exact ⟨by simpa using hs2, by simp [e2], hidx, hset, by simp⟩ | (dsimp only; exact ⟨by simpa using hs2, by simp [e2], hidx, hset, by simp⟩)), ⟨⟨rfl, rfl, rfl, trivial⟩, rfl, rfl⟩, ⟨[[(b29, cel [sv f, .int .i64 i, .int .i64 0] 74)]], (pm fun a_ => by (try simp only [List.flatten_append, List.flatten_cons, List.flatten_nil, List.append_nil, List.cons_append, List.nil_append, List.append_assoc, nOf_app, nOf_cons, nOf_nil, Nat.add_zero, Nat.zero_add, List.map_append, List.map_cons, List.map_nil, cel, sv]); omega)⟩⟩
        · have hset : L.set k (f, i, hasK L f i + 1) = addK L f i := by
            have hne : hasK L f i ≠ 0 := by
              have := hok.pos _ (List.mem_of_getElem? e2)
              simp only at this; omega
            rw [addK, if_neg hne, map_at hok.keys e2 (· + 1), e3]
          have e1' := e1
          rw [e1]
          skip
          refine WP.condFh rfl ((decide_eq_false (by omega))) ?_
          refine WP.skip <| ?_  -- cutend
          exact ⟨(L, k, v, row), (by first | exact ⟨hsl, by rw [e3]; exact e2, e1', hset, by omega⟩ | (dsimp only; exact ⟨hsl, by rw [e3]; exact e2, e1', hset, by omega⟩)), ⟨⟨rfl, rfl, rfl, trivial⟩, rfl, rfl⟩, ⟨_, (take1 at0 take0)⟩⟩
      · skip
        obtain ⟨L1, k, v1, row1⟩ := s
        obtain ⟨h1, h2, h3, h4, h5⟩ := hinv
        dsimp only at h1 h2 h3 h4 h5 ⊢
        have hpl2 := place_spec (rb := rb) ⟨v1, row1, h1, rfl⟩ (by omega) f i
        obtain ⟨a, cap, rfl, hcap, hrow⟩ := IsSl.elems (k := 2) enK_len h1
        have hlt := (List.getElem?_eq_some_iff.1 h2).1
        rcases hrow with ⟨e, -⟩ | ⟨b1, sp1, rfl, rfl, hsp1⟩
        · rw [e] at hlt; simp at hlt
        have hfs := flat_set enK_len sp1 (j := 2) (x := (f, i, hasK L f i)) (y := (f, i, hasK L f i + 1)) (v := .int .i64 (hasK L f i + 1)) (by decide) rfl L1 k h2
        rw [h4] at hfs
        have hlen : L1.length = (addK L f i).length := by rw [← h4]; simp
        have h6 : (addK L f i)[k]? = some (f, i, hasK L f i + 1) := by rw [← h4, List.getElem?_set]; simp [hlt]
        refine WP.seq <| WP.region <| v0 (S0.move rfl) rfl <| v0 (S0.move rfl) rfl <| v0 (S0.move rfl) rfl <| ?_  -- op t36 := call F50{(*rivulet/rivuletref04.Trie).place}(t33, t34, t35)
        refine vcd (S1.callF rfl (hpl2) (take1 at0 take0)) rfl ?_
        rw [h3]
        skip
        refine v0 (S0.assign rfl) rfl <| vE <| WP.seq <| WP.drawP [(0, none), (1, none), (2, none), (3, none), (4, none), (5, none), (6, none), (7, none), (8, none), (9, none), (10, none), (11, none), (12, none), (13, none), (14, none), (15, none), (16, none)] mixed (by kernel_rfl) (by kernel_rfl) (by kernel_rfl) (take1 at0 take0) <| w0 rfl rfl rfl (S0.move rfl) rfl <| w0 rfl rfl rfl (S0.nilCheck rfl) rfl <| w0 rfl rfl rfl (S0.fieldAddr rfl) rfl <| w0 rfl rfl rfl (S0.load rfl rfl) rfl <| w0 rfl rfl rfl (S0.move rfl) rfl <| w0 rfl rfl rfl (S0.move rfl) rfl <| w0 rfl rfl rfl (S0.nilCheck rfl) rfl <| w0 rfl rfl rfl (S0.fieldAddr rfl) rfl <| w0 rfl rfl rfl (S0.load rfl rfl) rfl <| w0 rfl rfl rfl (S0.move rfl) rfl <| ?_  -- op t47 := indexAddr 27 t45 t46
        refine w0 rfl rfl rfl (S0.indexN (k := 3) rfl rfl hlt) rfl <| ?_
        refine w0 rfl rfl rfl (S0.fieldAddr rfl) rfl <| ?_  -- limit
        refine w0 rfl rfl rfl (S0.load (v := .int .i64 (hasK L f i)) rfl (flat_get enK_len sp1 L1 k 2 _ h2 (by decide))) rfl <| ?_
        refine w0 rfl rfl rfl (S0.ari rfl rfl rfl (wrap_i64 (by omega))) rfl <| ?_  -- limit
        refine w0 rfl rfl rfl (S0.indexN (k := 3) rfl rfl hlt) rfl <| ?_
        refine w0 rfl rfl rfl (S0.fieldAddr rfl) rfl <| ?_  -- limit
        refine wlast rfl (by kernel_rfl) rfl rfl (S1.storeI rfl rfl rfl hfs (by rw [List.length_append, flat_len enK_len]; omega)) ?_
        refine WP.seq <| WP.region <| v0 (S0.move rfl) rfl <| v0 (S0.nilCheck rfl) rfl <| v0 (S0.fieldAddr rfl) rfl <| v0 (S0.load rfl rfl) rfl <| v0 (S0.move rfl) rfl <| ?_  -- op t58 := indexAddr 27 t56 t57
        refine v0 (S0.indexN (k := 3) rfl rfl hlt) rfl <| ?_
        refine v0 (S0.fieldAddr rfl) rfl <| ?_  -- limit
        refine v0 (S0.load (v := .int .i64 (hasK L f i + 1)) rfl (flat_get enK_len sp1 (addK L f i) k 2 _ h6 (by decide))) rfl <| ?_
        refine v0 (S0.assign rfl) rfl <| v0 (S0.assign rfl) rfl <| vE <| WP.ret <| ?_  -- ret
        refine r2 rfl rfl rfl ?_
        refine ⟨_, rfl, ⟨_, _, ?_, rfl⟩, rfl⟩
        rw [hlen]
        refine IsSl.row (flat_len enK_len _) ?_ (by omega)
        rw [List.length_append, flat_len enK_len] at hsp1 ⊢
        rw [← hlen]; exact hsp1
  · skip
    refine csTh (t := 12) rfl ((by simp [hF])) ?_
    refine gF rfl rfl <| gF rfl rfl <| v0 (S0.pickT rfl rfl) rfl <| vE <| WP.condT rfl <| WP.seq <| WP.region <| v0 (S0.assign rfl) rfl <| v0 (S0.assign rfl) rfl <| vE <| WP.ret <| ?_  -- ret
    refine r2 rfl rfl rfl ?_
    exact bad (by simp [okA, hF])
end Go.Proofs.YtmkgokjfkmbcoaaGreatDoor
/- R3 -/
namespace Go.Proofs.YtmkgokjfkmbcoaaGreatDoor
open Go

theorem enK_cv (x : Str × Int × Int) : (enK x).all cellV = true := rfl
theorem rdrop_spec {rb : Nat} {L : Asks} {c : List Blk} {m : Nat} (hc : IsRT rb L c) (hok : AsksOk L) (hb : AskB L m) (hm : m ≤ 100000) {f : Str} (hf : f.length ≤ 1000) (i : Int) :
    FN Tryz.prog 38 [.pointer (some ⟨rb, 0, none⟩), sv f, .int .i64 i] [c] (fun v h => ∃ c', v = .tuple ⟨[.int .i64 (dropV L f i), .int .i64 (dropE L f i)]⟩ ∧ IsRT rb (dropR L f i) c' ∧ h = [c']) := by
  have hc0 := hc
  have hbl := hb.len
  have hpl := place_spec hc (by omega) f i
  obtain ⟨v, row, hsl, rfl⟩ := hc
  have bad : ∀ e, ¬ (okA f i = true ∧ hasK L f i ≠ 0) → dropE L f i = e → ∃ c', Value.tuple ⟨[.int .i64 0, .int .i64 e]⟩ = .tuple ⟨[.int .i64 (dropV L f i), .int .i64 (dropE L f i)]⟩ ∧ IsRT rb (dropR L f i) c' ∧ [(rb, cel [v] 29) :: row] = [c'] := fun e h1 h2 => ⟨_, by rw [dropV, if_neg h1, h2], by rw [dropR, if_neg h1]; exact hc0, rfl⟩
  refine FN.intro 65 [(0, .pointer (some ⟨rb, 0, none⟩)), (1, sv f), (2, .int .i64 i)] Tryz.func38 rfl (enters Tryz.func38 (by kernel_rfl) rfl) Tryz.ntmps38 rfl rfl ?_
  refine WP.seq <| WP.region <| v0 (S0.assign rfl) rfl <| v0 (S0.assign rfl) rfl <| vE <| WP.seq <| WP.seq <| WP.region <| v0 (S0.move rfl) rfl <| ?_  -- op t12 := call F31{rivulet/rivuletref03.Filter}(t11)
  refine vcd (S1.callF rfl (rfilter_spec (show f.length ≤ 900000 by omega)) take0) rfl ?_
  refine v0 (S0.not rfl) rfl <| v0 (S0.move rfl) rfl <| ?_  -- guard t14 (wants False) at t15 := move t2 [if #3=False]
  skip
  by_cases hF : filtS f = true
  · skip
    refine csFh (t := 14) rfl ((by simp [hF])) ?_
    refine gT rfl <| v0 (S0.move rfl) rfl <| gT rfl <| v0 (S0.cmp rfl rfl rfl) rfl <| v0 (S0.pickF rfl rfl) rfl <| vE <| ?_  -- cond
    first | refine WP.condP rfl (fun hi => ?_) (fun hi => ?_) | refine WP.condN rfl (fun hi => ?_) (fun hi => ?_) | refine WP.cond rfl (fun hi => ?_) (fun hi => ?_)
    · skip
      have hok2 : okA f i = false := by simp [okA]; omega
      refine WP.seq <| WP.region <| v0 (S0.assign rfl) rfl <| v0 (S0.assign rfl) rfl <| vE <| WP.ret <| ?_  -- ret
      refine r2 rfl rfl rfl ?_
      exact bad 1 (by simp [hok2]) (by simp [dropE, hok2])
    · skip
      have hoka : okA f i = true := by simp [okA, hF]; omega
      refine WP.skip <| WP.seq <| WP.region <| v0 (S0.move rfl) rfl <| v0 (S0.move rfl) rfl <| v0 (S0.move rfl) rfl <| ?_  -- op t21 := call F50{(*rivulet/rivuletref04.Trie).place}(t18, t19, t20)
      refine vcd (S1.callF rfl (hpl) (take1 at0 take0)) rfl ?_
      skip
      rcases idx_has L f i with ⟨e1, e2, e3⟩ | ⟨k, n, e1, e2, e3⟩
      · rw [e1]
        skip
        refine v0 (S0.assign rfl) rfl <| vE <| WP.seq <| WP.seq <| WP.region <| v0 (S0.move rfl) rfl <| v0 (S0.cmp rfl rfl rfl) rfl <| vE <| ?_  -- cond
        refine WP.condTh rfl (rfl) ?_
        refine WP.seq <| WP.region <| v0 (S0.assign rfl) rfl <| v0 (S0.assign rfl) rfl <| vE <| WP.ret <| ?_  -- ret
        refine r2 rfl rfl rfl ?_
        exact bad 8 (by simp [e2]) (by simp [dropE, hoka, e2])
      · have hhas := hb.has f i
        have hpos : 0 < hasK L f i := by
          have := hok.pos _ (List.mem_of_getElem? e2)
          simp only at this; omega
        rw [← e3] at e2
        clear e3
        have hdr : dropR L f i = lessK L f i := by rw [dropR, if_pos ⟨hoka, by omega⟩]
        have hdv : Value.tuple ⟨[.int .i64 (hasK L f i - 1), .int .i64 0]⟩ = .tuple ⟨[.int .i64 (dropV L f i), .int .i64 (dropE L f i)]⟩ := by
          have h0 : hasK L f i ≠ 0 := by omega
          rw [dropV, if_pos ⟨hoka, h0⟩, dropE, if_pos hoka, if_pos h0]
        rw [hdr, ← hdv, e1]
        obtain ⟨a, cap, rfl, hcap, hrow⟩ := IsSl.elems (k := 2) enK_len hsl
        have hlt := (List.getElem?_eq_some_iff.1 e2).1
        rcases hrow with ⟨e, -⟩ | ⟨b1, sp1, rfl, rfl, hsp1⟩
        · rw [e] at hlt; simp at hlt
        have hfs := flat_set enK_len sp1 (j := 2) (x := (f, i, hasK L f i)) (y := (f, i, hasK L f i - 1)) (v := .int .i64 (hasK L f i - 1)) (by decide) rfl L k e2
        have hL1 : (L.set k (f, i, hasK L f i - 1)).length = L.length := by simp
        have hs1 : IsSl 74 3 (.slice (some ⟨b1, 0, none⟩) L.length cap) ((L.set k (f, i, hasK L f i - 1)).flatMap enK) [(b1, .cells ⟨(L.set k (f, i, hasK L f i - 1)).flatMap enK ++ sp1⟩ 74 (0, 0))] := by
          refine IsSl.row (by rw [flat_len enK_len, hL1]) ?_ hcap
          rw [List.length_append, flat_len enK_len] at hsp1 ⊢
          rw [hL1]; exact hsp1
        skip
        refine v0 (S0.assign rfl) rfl <| vE <| WP.seq <| WP.seq <| WP.region <| v0 (S0.move rfl) rfl <| v0 (S0.cmp rfl rfl rfl) rfl <| vE <| ?_  -- cond
        refine WP.condFh rfl ((decide_eq_false (by omega))) ?_
        refine WP.skip <| WP.seq <| WP.region <| v0 (S0.move rfl) rfl <| v0 (S0.nilCheck rfl) rfl <| v0 (S0.fieldAddr rfl) rfl <| v0 (S0.load rfl rfl) rfl <| v0 (S0.move rfl) rfl <| ?_  -- op t29 := indexAddr 27 t27 t28
        refine v0 (S0.indexN (k := 3) rfl rfl hlt) rfl <| ?_
        refine v0 (S0.fieldAddr rfl) rfl <| ?_  -- limit
        refine v0 (S0.load (v := .int .i64 (hasK L f i)) rfl (flat_get enK_len sp1 L k 2 _ e2 (by decide))) rfl <| ?_
        refine v0 (S0.ari rfl rfl rfl (wrap_i64 (by omega))) rfl <| v0 (S0.assign rfl) rfl <| vE <| WP.seq <| WP.region <| v0 (S0.move rfl) rfl <| v0 (S0.nilCheck rfl) rfl <| v0 (S0.fieldAddr rfl) rfl <| v0 (S0.load rfl rfl) rfl <| v0 (S0.move rfl) rfl <| v0 (S0.move rfl) rfl <| ?_  -- op t39 := indexAddr 27 t36 t37
        refine v0 (S0.indexN (k := 3) rfl rfl hlt) rfl <| ?_
        refine v0 (S0.fieldAddr rfl) rfl <| ?_  -- limit
        refine vs (S1.storeI rfl rfl rfl hfs (by rw [List.length_append, flat_len enK_len]; omega)) <| ?_
        refine vE <| WP.seq <| WP.seq <| WP.region <| v0 (S0.move rfl) rfl <| v0 (S0.cmp rfl rfl rfl) rfl <| vE <| ?_  -- cond
        first | refine WP.condP rfl (fun h1 => ?_) (fun h1 => ?_) | refine WP.condN rfl (fun h1 => ?_) (fun h1 => ?_) | refine WP.cond rfl (fun h1 => ?_) (fun h1 => ?_)
        · skip
          have hone : hasK L f i = 1 := by omega
          have hless : lessK L f i = L.take k ++ L.drop (k + 1) := by rw [lessK, if_pos hone]; exact filter_at hok.keys e2
          have hrd := IsSl.rd (k := 2) enK_len hs1
          rw [hL1.symm] at hrd
          obtain ⟨-, -, hc1⟩ := hrd.cutG 0 k (Nat.zero_le _) (by simp; omega)
          obtain ⟨-, -, hc2⟩ := hrd.cutG (k + 1) (L.set k (f, i, hasK L f i - 1)).length (by simp; omega) (Nat.le_refl _)
          rw [hL1] at hc2
          have e1' : ((L.set k (f, i, hasK L f i - 1)).drop 0).take (k - 0) = L.take k := by
            rw [List.drop_zero, Nat.sub_zero, List.take_set_of_le (Nat.le_refl _)]
          have e2' : ((L.set k (f, i, hasK L f i - 1)).drop (k + 1)).take (L.length - (k + 1)) = L.drop (k + 1) := by
            rw [List.drop_set_of_lt (by omega), List.take_of_length_le (by simp)]
          rw [e1'] at hc1
          rw [e2'] at hc2
          have hll : (L.take k).length ≤ L.length ∧ (L.drop (k + 1)).length ≤ L.length := by rw [List.length_take, List.length_drop]; omega
          refine WP.seq <| WP.region <| vnv (S1.buildSlice rfl (qs := []) rfl rfl) rfl fun b43 => v0 (S0.move rfl) rfl <| v0 (S0.nilCheck rfl) rfl <| v0 (S0.fieldAddr rfl) rfl <| v0 (S0.load rfl rfl) rfl <| v0 (S0.move rfl) rfl <| ?_  -- op t49 := slice 27 t47 none t48 none
          refine v0 (S0.sliceG (i := 0) (j := k) rfl rfl rfl ⟨Nat.zero_le _, by omega⟩) rfl <| ?_
          refine ve (S1.appendR enK_len enK_cv rfl (IsSl.row (n := 0) (c := 0) (l := []) (sp := []) rfl rfl (Nat.le_refl _)) rfl hc1 (fun q hq => by rw [List.mem_singleton.1 hq]; simp) at0 rfl (by have := hll; simp only [List.length_nil]; omega)) rfl ?_
          rintro v2 _ ⟨row2, hs2, rfl⟩
          rw [List.nil_append] at hs2
          refine v0 (S0.assign rfl) rfl <| vE <| WP.seq <| WP.region <| v0 (S0.move rfl) rfl <| v0 (S0.move rfl) rfl <| v0 (S0.nilCheck rfl) rfl <| v0 (S0.fieldAddr rfl) rfl <| v0 (S0.load rfl rfl) rfl <| v0 (S0.move rfl) rfl <| v0 (S0.ari rfl rfl rfl (wrap_i64 (by omega))) rfl <| ?_  -- op t58 := slice 27 t55 t57 none none
          refine v0 (S0.sliceG (i := k + 1) (j := L.length) rfl rfl rfl ⟨by omega, hcap⟩) rfl <| ?_
          refine ve (S1.appendR enK_len enK_cv rfl hs2 rfl hc2 (fun q hq => by rw [List.mem_singleton.1 hq]; simp) at0 rfl (by rw [flat_len enK_len]; omega)) rfl ?_
          rintro v3 _ ⟨row3, hs3, rfl⟩
          refine v0 (S0.assign rfl) rfl <| vE <| WP.region <| v0 (S0.move rfl) rfl <| v0 (S0.move rfl) rfl <| v0 (S0.nilCheck rfl) rfl <| v0 (S0.fieldAddr rfl) rfl <| vs (S1.store rfl rfl (by first | rfl | exact IsSl.cv (by assumption))) <| vE <| WP.seq <| WP.region <| v0 (S0.move rfl) rfl <| v0 (S0.assign rfl) rfl <| v0 (S0.assign rfl) rfl <| vE <| WP.ret <| ?_  -- ret
          refine Leaves.drop (h' := [(rb, cel [v3] 29) :: row3]) (k := [[(b1, .cells ⟨(L.set k (f, i, hasK L f i - 1)).flatMap enK ++ sp1⟩ 74 (0, 0))]]) (pm fun a_ => by (try simp only [List.flatten_append, List.flatten_cons, List.flatten_nil, List.append_nil, List.cons_append, List.nil_append, List.append_assoc, nOf_app, nOf_cons, nOf_nil, Nat.add_zero, Nat.zero_add, List.map_append, List.map_cons, List.map_nil, cel, sv]); omega) ?_
          refine r2 rfl rfl rfl ?_
          exact ⟨_, rfl, ⟨_, _, by rw [hless, List.flatMap_append]; exact hs3, rfl⟩, rfl⟩
        · skip
          have hless : lessK L f i = L.set k (f, i, hasK L f i - 1) := by rw [lessK, if_neg (by omega)]; exact map_at hok.keys e2 (· - 1)
          refine WP.skip <| WP.seq <| WP.region <| v0 (S0.move rfl) rfl <| v0 (S0.assign rfl) rfl <| v0 (S0.assign rfl) rfl <| vE <| WP.ret <| ?_  -- ret
          refine r2 rfl rfl rfl ?_
          exact ⟨_, rfl, ⟨_, _, by rw [hless]; exact hs1, rfl⟩, rfl⟩
  · skip
    have hok2 : okA f i = false := by simp [okA, hF]
    refine csTh (t := 14) rfl ((by simp [hF])) ?_
    refine gF rfl rfl <| gF rfl rfl <| v0 (S0.pickT rfl rfl) rfl <| vE <| WP.condT rfl <| WP.seq <| WP.region <| v0 (S0.assign rfl) rfl <| v0 (S0.assign rfl) rfl <| vE <| WP.ret <| ?_  -- ret
    refine r2 rfl rfl rfl ?_
    exact bad 1 (by simp [hok2]) (by simp [dropE, hok2])
end Go.Proofs.YtmkgokjfkmbcoaaGreatDoor
/- R4 -/
namespace Go.Proofs.YtmkgokjfkmbcoaaGreatDoor
open Go

theorem insI_at {f : Int} : ∀ {l : List Int} {i : Nat}, i ≤ l.length → (∀ j y, j < i → l[j]? = some y → y < f) → (∀ y, l[i]? = some y → ¬ y < f) → insI l f = if l[i]? = some f then l else l.take i ++ f :: l.drop i
  | [], i, hi, _, _ => by simp at hi; subst hi; simp [insI]
  | x :: l, 0, _, _, h2 => by
    have := h2 x rfl
    simp only [insI, if_neg this, List.getElem?_cons_zero, Option.some.injEq]
    simp
  | x :: l, i + 1, hi, h1, h2 => by
    have h0 := h1 0 x (by omega) rfl
    have ih := insI_at (f := f) (l := l) (i := i) (by simpa using hi) (fun j y hj hy => h1 (j + 1) y (by omega) (by simpa using hy)) (fun y hy => h2 y (by simpa using hy))
    simp only [insI, if_pos h0, ih, List.getElem?_cons_succ]
    split <;> simp
theorem insI_len (l : List Int) (f : Int) : (insI l f).length ≤ l.length + 1 := by
  induction l with
  | nil => simp [insI]
  | cons x l ih =>
    simp only [insI]
    split
    · simp; omega
    · split <;> simp
theorem ints_app (a b : List Int) : ints (a ++ b) = ints a ++ ints b := by simp [ints]
theorem inserti_spec {v : Value} {l : List Int} {row : List Blk} {f : Int} (hs : IsSl 3 1 v (ints l) row) (hl : l.length ≤ 100000) :
    FN Tryz.prog 47 [v, .int .i64 f] [row] (fun u h => ∃ row2, IsSl 3 1 u (ints (insI l f)) row2 ∧ h = [row2]) := by
  have hs' := hs
  obtain ⟨a, cap, rfl, hcap, hrow⟩ := hs'.intsE
  refine FN.intro 49 [(0, .slice a l.length cap), (1, .int .i64 f)] Tryz.func47 rfl (enters Tryz.func47 (by kernel_rfl) rfl) Tryz.ntmps47 rfl rfl ?_
  refine WP.seq <| WP.region <| v0 (S0.assign rfl) rfl <| vE <| WP.seq <| WP.region <| v0 (S0.assign rfl) rfl <| vE <| WP.seq <| WP.block <| ?_  -- Code.loop
  refine WP.loop (fun i : Nat => i ≤ l.length ∧ ∀ j y, j < i → l[j]? = some y → y < f) (fun i : Nat => [(0, .slice a l.length cap), (1, .int .i64 f), (5, .int .i64 (i : Int))]) (fun i : Nat => [row]) (fun i : Nat => l.length - i) (0) (⟨Nat.zero_le _, fun j y hj => by omega⟩) ⟨rfl, rfl, rfl, trivial⟩ ⟨_, (take1 at0 take0)⟩ (fun i hinv => ?_) 
  obtain ⟨hi, hall⟩ := hinv
  -- what is laid behind the search
  have fin : ∀ hins : insI l f = l.take i ++ f :: l.drop i, True := fun _ => trivial
  refine WP.seq <| WP.seq <| WP.region <| v0 (S0.move rfl) rfl <| v0 (S0.move rfl) rfl <| v0 (S0.lenSl rfl) rfl <| v0 (S0.cmp rfl rfl rfl) rfl <| v0 (S0.move rfl) rfl <| ?_  -- guard t11 (wants True) at t12 := move t0 [if #4=True]
  first | refine csP (t := 11) rfl (fun h1 => ?_) (fun h1 => ?_) | refine csN (t := 11) rfl (fun h1 => ?_) (fun h1 => ?_) | refine cs (t := 11) rfl (fun h1 => ?_) (fun h1 => ?_)
  · skip
    have hlt : i < l.length := by omega
    rcases hrow with ⟨e, -⟩ | ⟨b1, sp1, rfl, rfl, hsp1⟩
    · rw [e] at hlt; simp at hlt
    have hg : l[i]? = some l[i] := by simp [hlt]
    generalize l[i] = x at hg
    refine gT rfl <| v0 (S0.move rfl) rfl <| gT rfl <| v0 (S0.move rfl) rfl <| ?_  -- op t14 := indexAddr 38 t12 t13 [if #4=True]
    refine gT rfl <| v0 (S0.index1 rfl rfl hlt) rfl <| ?_
    refine gT rfl <| v0 (S0.load rfl (ints_get hg)) rfl <| ?_
    refine gT rfl <| v0 (S0.move rfl) rfl <| gT rfl <| v0 (S0.cmp rfl rfl rfl) rfl <| v0 (S0.pickT rfl rfl) rfl <| vE <| ?_  -- cond
    first | refine WP.condP rfl (fun h2 => ?_) (fun h2 => ?_) | refine WP.condN rfl (fun h2 => ?_) (fun h2 => ?_) | refine WP.cond rfl (fun h2 => ?_) (fun h2 => ?_)
    · skip
      refine WP.skip <| WP.block <| WP.region <| v0 (S0.move rfl) rfl <| v0 (S0.ari rfl rfl rfl (wrap_i64 (by omega))) rfl <| v0 (S0.assign rfl) rfl <| vE <| ?_  -- roundend
      exact ⟨i + 1, (by first | exact ⟨hlt, below_at (p := fun _ y => y < f) hall hg h2⟩ | (dsimp only; exact ⟨hlt, below_at (p := fun _ y => y < f) hall hg h2⟩)), (by omega), ⟨⟨rfl, rfl, rfl, trivial⟩, rfl, rfl⟩, ⟨_, (take1 at0 take0)⟩⟩
    · skip
      have hins := insI_at (f := f) hi hall (fun y hy => by rw [hg] at hy; cases hy; exact h2)
      rw [hg] at hins
      refine WP.exit <| WP.seq <| WP.seq <| WP.region <| v0 (S0.move rfl) rfl <| v0 (S0.move rfl) rfl <| v0 (S0.lenSl rfl) rfl <| v0 (S0.cmp rfl rfl rfl) rfl <| v0 (S0.move rfl) rfl <| ?_  -- guard t25 (wants True) at t26 := move t0 [if #4=True]
      refine csTh (t := 25) rfl ((by simp; omega)) ?_
      refine gT rfl <| v0 (S0.move rfl) rfl <| gT rfl <| v0 (S0.move rfl) rfl <| ?_  -- op t28 := indexAddr 38 t26 t27 [if #4=True]
      refine gT rfl <| v0 (S0.index1 rfl rfl hlt) rfl <| ?_
      refine gT rfl <| v0 (S0.load rfl (ints_get hg)) rfl <| ?_
      refine gT rfl <| v0 (S0.move rfl) rfl <| gT rfl <| v0 (S0.cmp rfl rfl rfl) rfl <| v0 (S0.pickT rfl rfl) rfl <| vE <| ?_  -- cond
      first | refine WP.condP rfl (fun h3 => ?_) (fun h3 => ?_) | refine WP.condN rfl (fun h3 => ?_) (fun h3 => ?_) | refine WP.cond rfl (fun h3 => ?_) (fun h3 => ?_)
      · skip
        refine WP.seq <| WP.region <| v0 (S0.move rfl) rfl <| v0 (S0.assign rfl) rfl <| vE <| WP.ret <| ?_  -- ret
        refine r1 rfl rfl ?_
        exact ⟨_, by rw [hins, if_pos (by rw [h3])]; exact hs, rfl⟩
      · skip
        rw [if_neg (fun e => h3 (by simpa using e))] at hins
        obtain ⟨-, -, hc1⟩ := hs.rdI.cutG 0 i (Nat.zero_le _) (by omega)
        obtain ⟨-, -, hc2⟩ := hs.rdI.cutG i l.length (by omega) (Nat.le_refl _)
        rw [List.drop_zero, Nat.sub_zero] at hc1
        rw [List.take_of_length_le (by simp)] at hc2
        have hll : (l.take i).length ≤ l.length ∧ (l.drop i).length ≤ l.length := by rw [List.length_take, List.length_drop]; omega
        refine WP.skip <| WP.seq <| WP.region <| vnv (S1.buildSlice rfl (qs := []) rfl rfl) rfl fun b34 => v0 (S0.move rfl) rfl <| v0 (S0.move rfl) rfl <| ?_  -- op t37 := slice 38 t35 none t36 none
        refine v0 (S0.sliceG (i := 0) (j := i) rfl rfl rfl ⟨Nat.zero_le _, by omega⟩) rfl <| ?_
        rw [Nat.sub_zero]
        refine ve (S1.appendR (k := 0) (fun _ => rfl) (fun _ => rfl) rfl (IsSl.row (n := 0) (c := 0) (l := []) (sp := []) rfl rfl (Nat.le_refl _)) rfl hc1 (fun q hq => List.mem_flatten.2 ⟨_, by simp, hq⟩) at0 rfl (by simp; omega)) rfl ?_
        rintro v2 _ ⟨row2, hs2, rfl⟩
        rw [List.nil_append, ← ints_flat] at hs2
        refine v0 (S0.assign rfl) rfl <| vE <| WP.seq <| WP.region <| v0 (S0.move rfl) rfl <| v0 (S0.move rfl) rfl <| vnv (S1.buildSlice rfl (qs := [(0, _)]) rfl rfl) rfl fun b41 => ?_  -- op t42 := append(t39, t41) :[38, 38]
        refine ve (S1.appendL rfl hs2 rfl rfl (atS at0) rfl rfl (by rw [ints_len]; simp; omega)) rfl ?_
        rintro v3 _ ⟨row3, hs3, rfl⟩
        refine v0 (S0.assign rfl) rfl <| vE <| WP.seq <| WP.region <| v0 (S0.move rfl) rfl <| v0 (S0.move rfl) rfl <| v0 (S0.move rfl) rfl <| ?_  -- op t46 := slice 38 t44 t45 none none
        refine v0 (S0.sliceG (i := i) (j := l.length) rfl rfl rfl ⟨by omega, hcap⟩) rfl <| ?_
        refine ve (S1.appendR (k := 0) (fun _ => rfl) (fun _ => rfl) rfl hs3 rfl hc2 (fun q hq => List.mem_flatten.2 ⟨_, by simp, hq⟩) at0 rfl (by rw [List.length_append, ints_len]; simp; omega)) rfl ?_
        rintro v4 _ ⟨row4, hs4, rfl⟩
        rw [← ints_flat] at hs4
        refine v0 (S0.assign rfl) rfl <| vE <| WP.seq <| WP.region <| v0 (S0.move rfl) rfl <| v0 (S0.assign rfl) rfl <| vE <| WP.ret <| ?_  -- ret
        refine Leaves.drop (take1 at0 take0) ?_
        refine r1 rfl rfl ?_
        refine ⟨row4, ?_, rfl⟩
        rw [hins]
        simpa [ints] using hs4
  · skip
    have e : i = l.length := by omega
    subst e
    have hins := insI_at (f := f) (Nat.le_refl _) hall (fun y hy => by simp at hy)
    rw [if_neg (by simp), List.take_length, List.drop_length] at hins
    refine gF rfl rfl <| gF rfl rfl <| gF rfl rfl <| gF rfl rfl <| gF rfl rfl <| gF rfl rfl <| v0 (S0.pickF rfl rfl) rfl <| vE <| WP.condF rfl <| WP.exit <| WP.seq <| WP.seq <| WP.region <| v0 (S0.move rfl) rfl <| v0 (S0.move rfl) rfl <| v0 (S0.lenSl rfl) rfl <| v0 (S0.cmp rfl rfl rfl) rfl <| v0 (S0.move rfl) rfl <| ?_  -- guard t25 (wants True) at t26 := move t0 [if #4=True]
    refine csFh (t := 25) rfl ((by simp)) ?_
    refine gF rfl rfl <| gF rfl rfl <| gF rfl rfl <| gF rfl rfl <| gF rfl rfl <| gF rfl rfl <| v0 (S0.pickF rfl rfl) rfl <| vE <| WP.condF rfl <| WP.skip <| WP.seq <| WP.region <| vnv (S1.buildSlice rfl (qs := []) rfl rfl) rfl fun b34 => v0 (S0.move rfl) rfl <| v0 (S0.move rfl) rfl <| ?_  -- op t37 := slice 38 t35 none t36 none
    obtain ⟨-, -, hc1⟩ := hs.rdI.cutG 0 l.length (Nat.zero_le _) (Nat.le_refl _)
    obtain ⟨-, -, hc2⟩ := hs.rdI.cutG l.length l.length (Nat.le_refl _) (Nat.le_refl _)
    refine v0 (S0.sliceG (i := 0) (j := l.length) rfl rfl rfl ⟨Nat.zero_le _, hcap⟩) rfl <| ?_
    refine ve (S1.appendR (k := 0) (fun _ => rfl) (fun _ => rfl) rfl (IsSl.row (n := 0) (c := 0) (l := []) (sp := []) rfl rfl (Nat.le_refl _)) rfl hc1 (fun q hq => List.mem_flatten.2 ⟨_, by simp, hq⟩) at0 rfl (by simp; omega)) rfl ?_
    rintro v2 _ ⟨row2, hs2, rfl⟩
    rw [List.nil_append, ← ints_flat] at hs2
    refine v0 (S0.assign rfl) rfl <| vE <| WP.seq <| WP.region <| v0 (S0.move rfl) rfl <| v0 (S0.move rfl) rfl <| vnv (S1.buildSlice rfl (qs := [(0, _)]) rfl rfl) rfl fun b41 => ?_  -- op t42 := append(t39, t41) :[38, 38]
    refine ve (S1.appendL rfl hs2 rfl rfl (atS at0) rfl rfl (by rw [ints_len]; simp; omega)) rfl ?_
    rintro v3 _ ⟨row3, hs3, rfl⟩
    refine v0 (S0.assign rfl) rfl <| vE <| WP.seq <| WP.region <| v0 (S0.move rfl) rfl <| v0 (S0.move rfl) rfl <| v0 (S0.move rfl) rfl <| ?_  -- op t46 := slice 38 t44 t45 none none
    refine v0 (S0.sliceG (i := l.length) (j := l.length) rfl rfl rfl ⟨Nat.le_refl _, hcap⟩) rfl <| ?_
    refine ve (S1.appendR (k := 0) (fun _ => rfl) (fun _ => rfl) rfl hs3 rfl hc2 (fun q hq => List.mem_flatten.2 ⟨_, by simp, hq⟩) at0 rfl (by rw [List.length_append, ints_len]; simp; omega)) rfl ?_
    rintro v4 _ ⟨row4, hs4, rfl⟩
    rw [← ints_flat] at hs4
    refine v0 (S0.assign rfl) rfl <| vE <| WP.seq <| WP.region <| v0 (S0.move rfl) rfl <| v0 (S0.assign rfl) rfl <| vE <| WP.ret <| ?_  -- ret
    refine Leaves.drop (take1 at0 take0) ?_
    refine r1 rfl rfl ?_
    refine ⟨row4, ?_, rfl⟩
    rw [hins]
    simpa [ints] using hs4
def idsN (L : Asks) (s : Str) (k : Nat) : List Int := (((L.take k).filter fun x => matchS x.1 s).map (·.2.1)).foldl insI []
theorem idsN_succ {L : Asks} {s : Str} {k : Nat} {x : Str × Int × Int} (hx : L[k]? = some x) : idsN L s (k + 1) = if matchS x.1 s = true then insI (idsN L s k) x.2.1 else idsN L s k := by
  unfold idsN
  rw [take_one hx, List.filter_append]
  by_cases h : matchS x.1 s = true
  · simp [h]
  · simp [h]
theorem idsN_len (L : Asks) (s : Str) (k : Nat) : (idsN L s k).length ≤ L.length := by
  have key : ∀ (l : List Int) (a : List Int), (l.foldl insI a).length ≤ a.length + l.length := by
    intro l
    induction l with
    | nil => intro a; simp
    | cons x l ih =>
      intro a
      have h1 := ih (insI a x)
      have h2 := insI_len a x
      rw [List.foldl_cons, List.length_cons]; omega
  have h1 := key (((L.take k).filter fun x => matchS x.1 s).map (·.2.1)) []
  have h2 := List.length_filter_le (fun x => matchS x.1 s) (L.take k)
  simp only [List.length_map, List.length_nil, List.length_take] at h1 h2
  unfold idsN; omega
theorem rmatch4_spec {rb : Nat} {L : Asks} {c : List Blk} {m : Nat} (hc : IsRT rb L c) (hok : AsksOk L) (hb : AskB L m) (hm : m ≤ 1000) {s : Str} (hs : s.length ≤ 1000) :
    FN Tryz.prog 20 [.pointer (some ⟨rb, 0, none⟩), sv s] [c] (fun v h => ∃ row, IsSl 3 1 v (ints (idsK L s)) row ∧ h = [row, c]) := by
  have hbl := hb.len
  obtain ⟨v, row, hsl, rfl⟩ := hc
  obtain ⟨a, cap, rfl, hcap, hrow⟩ := IsSl.elems (k := 2) enK_len hsl
  refine FN.intro 38 [(0, .pointer (some ⟨rb, 0, none⟩)), (1, sv s)] Tryz.func20 rfl (enters Tryz.func20 (by kernel_rfl) rfl) Tryz.ntmps20 rfl rfl ?_
  refine WP.seq <| WP.region <| v0 (S0.assign rfl) rfl <| vE <| WP.seq <| WP.region <| vnv (S1.buildSlice rfl (qs := []) rfl rfl) rfl fun b7 => v0 (S0.assign rfl) rfl <| vE <| WP.seq <| WP.seq <| WP.region <| v0 (S0.assign rfl) rfl <| vE <| WP.block <| ?_  -- Code.loop
  refine WP.loop (fun st : Nat × Value × List Blk => st.1 ≤ L.length ∧ IsSl 3 1 st.2.1 (ints (idsN L s st.1)) st.2.2) (fun st : Nat × Value × List Blk => [(0, .pointer (some ⟨rb, 0, none⟩)), (1, sv s), (5, st.2.1), (6, .int .i64 (st.1 : Int))]) (fun st : Nat × Value × List Blk => [st.2.2, (rb, cel [.slice a L.length cap] 29) :: row]) (fun st : Nat × Value × List Blk => L.length - st.1) ((0, _, [(b7, .cells ⟨[]⟩ 3 (0, 0))])) (⟨Nat.zero_le _, IsSl.row (n := 0) (c := 0) (l := []) (sp := []) rfl rfl (Nat.le_refl _)⟩) ⟨rfl, rfl, rfl, rfl, trivial⟩ ⟨_, (take1 at0 (take1 at0 take0))⟩ (fun st hinv => ?_) 
  obtain ⟨k, ov, orow⟩ := st
  obtain ⟨hk, hos⟩ := hinv
  dsimp only at hk hos ⊢
  have hil := idsN_len L s k
  refine WP.seq <| WP.seq <| WP.region <| v0 (S0.move rfl) rfl <| v0 (S0.move rfl) rfl <| v0 (S0.nilCheck rfl) rfl <| v0 (S0.fieldAddr rfl) rfl <| v0 (S0.load rfl rfl) rfl <| v0 (S0.lenSl rfl) rfl <| v0 (S0.cmp rfl rfl rfl) rfl <| vE <| ?_  -- cond
  first | refine WP.condP rfl (fun h1 => ?_) (fun h1 => ?_) | refine WP.condN rfl (fun h1 => ?_) (fun h1 => ?_) | refine WP.cond rfl (fun h1 => ?_) (fun h1 => ?_)
  · skip
    have hlt : k < L.length := by omega
    rcases hrow with ⟨e, -⟩ | ⟨b1, sp1, rfl, rfl, hsp1⟩
    · rw [e] at hlt; simp at hlt
    have hx : L[k]? = some L[k] := by simp [hlt]
    have hxl := filt_len (hok.filt _ (List.getElem_mem hlt)).1
    generalize L[k] = x at hx hxl
    have hsucc := idsN_succ (s := s) hx
    refine WP.skip <| WP.seq <| WP.block <| WP.seq <| WP.region <| v0 (S0.move rfl) rfl <| v0 (S0.nilCheck rfl) rfl <| v0 (S0.fieldAddr rfl) rfl <| v0 (S0.load rfl rfl) rfl <| v0 (S0.move rfl) rfl <| ?_  -- op t22 := indexAddr 27 t20 t21
    refine v0 (S0.indexN (k := 3) rfl rfl hlt) rfl <| ?_
    refine v0 (S0.fieldAddr rfl) rfl <| ?_  -- limit
    refine v0 (S0.load rfl (flat_get enK_len sp1 L k 0 x hx (by decide))) rfl <| ?_
    refine v0 (S0.move rfl) rfl <| ?_  -- op t26 := call F28{rivulet/rivuletref03.Match}(t24, t25)
    refine vcd (S1.callF rfl (rmatch_spec (show x.1.length ≤ 800000 by omega) (show s.length ≤ 800000 by omega)) take0) rfl ?_
    refine vE <| ?_  -- cond
    first | refine WP.condP rfl (fun h2 => ?_) (fun h2 => ?_) | refine WP.condN rfl (fun h2 => ?_) (fun h2 => ?_) | refine WP.cond rfl (fun h2 => ?_) (fun h2 => ?_)
    · skip
      rw [if_pos h2] at hsucc
      refine WP.region <| v0 (S0.move rfl) rfl <| v0 (S0.move rfl) rfl <| v0 (S0.nilCheck rfl) rfl <| v0 (S0.fieldAddr rfl) rfl <| v0 (S0.load rfl rfl) rfl <| v0 (S0.move rfl) rfl <| ?_  -- op t33 := indexAddr 27 t31 t32
      refine v0 (S0.indexN (k := 3) rfl rfl hlt) rfl <| ?_
      refine v0 (S0.fieldAddr rfl) rfl <| ?_  -- limit
      refine v0 (S0.load rfl (flat_get enK_len sp1 L k 1 x hx (by decide))) rfl <| ?_
      -- (nothing to walk: op t36 := call F47{rivulet/rivuletref04.insert}(t27, t35))
      refine vc (S1.callF rfl (inserti_spec hos (by omega)) (take1 at0 take0)) rfl ?_
      rintro v2 _ ⟨row2, hs2, rfl⟩
      refine app ?_
      rw [← hsucc] at hs2
      refine v0 (S0.assign rfl) rfl <| vE <| WP.region <| v0 (S0.move rfl) rfl <| v0 (S0.ari rfl rfl rfl (wrap_i64 (by omega))) rfl <| v0 (S0.assign rfl) rfl <| vE <| ?_  -- roundend
      exact ⟨(k + 1, v2, row2), (by first | exact ⟨hlt, hs2⟩ | (dsimp only; exact ⟨hlt, hs2⟩)), (show L.length - (k + 1) < L.length - k by omega), ⟨⟨rfl, rfl, rfl, rfl, trivial⟩, rfl, rfl⟩, ⟨_, (take1 at0 (take1 at0 take0))⟩⟩
    · skip
      rw [if_neg (by simp [h2])] at hsucc
      refine WP.skip <| WP.region <| v0 (S0.move rfl) rfl <| v0 (S0.ari rfl rfl rfl (wrap_i64 (by omega))) rfl <| v0 (S0.assign rfl) rfl <| vE <| ?_  -- roundend
      exact ⟨(k + 1, ov, orow), (by first | exact ⟨hlt, by rw [hsucc]; exact hos⟩ | (dsimp only; exact ⟨hlt, by rw [hsucc]; exact hos⟩)), (show L.length - (k + 1) < L.length - k by omega), ⟨⟨rfl, rfl, rfl, rfl, trivial⟩, rfl, rfl⟩, ⟨_, (take1 at0 (take1 at0 take0))⟩⟩
  · skip
    have e : k = L.length := by omega
    refine WP.exit <| WP.seq <| WP.region <| v0 (S0.move rfl) rfl <| v0 (S0.assign rfl) rfl <| vE <| WP.ret <| ?_  -- ret
    refine r1 rfl rfl ?_
    exact ⟨orow, by rw [show idsK L s = idsN L s k by rw [e]; simp [idsK, idsN]]; exact hos, rfl⟩
end Go.Proofs.YtmkgokjfkmbcoaaGreatDoor
/- R5 -/
namespace Go.Proofs.YtmkgokjfkmbcoaaGreatDoor
open Go

def ofN (L : Asks) (p : Str × Int × Int → Bool) (k : Nat) : List Str := (((L.take k).filter p).map (·.1)).foldl insS []
theorem ofN_succ {L : Asks} {p : Str × Int × Int → Bool} {k : Nat} {x : Str × Int × Int} (hx : L[k]? = some x) : ofN L p (k + 1) = if p x = true then insS (ofN L p k) x.1 else ofN L p k := by
  unfold ofN
  rw [take_one hx, List.filter_append]
  by_cases h : p x = true
  · simp [h]
  · simp [h]
theorem ofN_len (L : Asks) (p : Str × Int × Int → Bool) (k : Nat) : (ofN L p k).length ≤ L.length := by
  have h1 := foldl_len (((L.take k).filter p).map (·.1)) []
  have h2 := List.length_filter_le p (L.take k)
  simp only [List.length_map, List.length_nil, List.length_take] at h1 h2
  unfold ofN; omega
theorem ofN_mem {L : Asks} {p : Str × Int × Int → Bool} {k : Nat} {m : Nat} (h : ∀ x ∈ L, x.1.length ≤ m) : ∀ y ∈ ofN L p k, y.length ≤ m := fun y hy => by
  unfold ofN at hy
  rw [(foldl_ins _ [] List.Pairwise.nil).2] at hy
  simp only [List.not_mem_nil, false_or, List.mem_map, List.mem_filter] at hy
  obtain ⟨x, ⟨h1, -⟩, rfl⟩ := hy
  exact h x (List.mem_of_mem_take h1)
theorem rof_spec {rb : Nat} {L : Asks} {c : List Blk} {m : Nat} (hc : IsRT rb L c) (hok : AsksOk L) (hb : AskB L m) (hm : m ≤ 1000) (i : Int) :
    FN Tryz.prog 24 [.pointer (some ⟨rb, 0, none⟩), .int .i64 i] [c] (fun v h => ∃ row, IsSl 9 1 v (strs (ofK L i)) row ∧ h = [row, c]) := by
  have hbl := hb.len
  have hfl : ∀ x ∈ L, x.1.length ≤ 1000 := fun x hx => by have := filt_len (hok.filt x hx).1; omega
  obtain ⟨v, row, hsl, rfl⟩ := hc
  obtain ⟨a, cap, rfl, hcap, hrow⟩ := IsSl.elems (k := 2) enK_len hsl
  refine FN.intro 38 [(0, .pointer (some ⟨rb, 0, none⟩)), (1, .int .i64 i)] Tryz.func24 rfl (enters Tryz.func24 (by kernel_rfl) rfl) Tryz.ntmps24 rfl rfl ?_
  refine WP.seq <| WP.region <| v0 (S0.assign rfl) rfl <| vE <| WP.seq <| WP.region <| vnv (S1.buildSlice rfl (qs := []) rfl rfl) rfl fun b7 => v0 (S0.assign rfl) rfl <| vE <| WP.seq <| WP.seq <| WP.region <| v0 (S0.assign rfl) rfl <| vE <| WP.block <| ?_  -- Code.loop
  refine WP.loop (fun st : Nat × Value × List Blk => st.1 ≤ L.length ∧ IsSl 9 1 st.2.1 (strs (ofN L (fun x => decide (x.2.1 = i)) st.1)) st.2.2) (fun st : Nat × Value × List Blk => [(0, .pointer (some ⟨rb, 0, none⟩)), (1, .int .i64 i), (5, st.2.1), (6, .int .i64 (st.1 : Int))]) (fun st : Nat × Value × List Blk => [st.2.2, (rb, cel [.slice a L.length cap] 29) :: row]) (fun st : Nat × Value × List Blk => L.length - st.1) ((0, _, [(b7, .cells ⟨[]⟩ 9 (0, 0))])) (⟨Nat.zero_le _, IsSl.row (n := 0) (c := 0) (l := []) (sp := []) rfl rfl (Nat.le_refl _)⟩) ⟨rfl, rfl, rfl, rfl, trivial⟩ ⟨_, (take1 at0 (take1 at0 take0))⟩ (fun st hinv => ?_) 
  obtain ⟨k, ov, orow⟩ := st
  obtain ⟨hk, hos⟩ := hinv
  dsimp only at hk hos ⊢
  have hil := ofN_len L (fun x => decide (x.2.1 = i)) k
  have hix := ofN_mem (p := fun x => decide (x.2.1 = i)) (k := k) hfl
  refine WP.seq <| WP.seq <| WP.region <| v0 (S0.move rfl) rfl <| v0 (S0.move rfl) rfl <| v0 (S0.nilCheck rfl) rfl <| v0 (S0.fieldAddr rfl) rfl <| v0 (S0.load rfl rfl) rfl <| v0 (S0.lenSl rfl) rfl <| v0 (S0.cmp rfl rfl rfl) rfl <| vE <| ?_  -- cond
  first | refine WP.condP rfl (fun h1 => ?_) (fun h1 => ?_) | refine WP.condN rfl (fun h1 => ?_) (fun h1 => ?_) | refine WP.cond rfl (fun h1 => ?_) (fun h1 => ?_)
  · skip
    have hlt : k < L.length := by omega
    rcases hrow with ⟨e, -⟩ | ⟨b1, sp1, rfl, rfl, hsp1⟩
    · rw [e] at hlt; simp at hlt
    have hx : L[k]? = some L[k] := by simp [hlt]
    have hxl := hfl _ (List.getElem_mem hlt)
    generalize L[k] = x at hx hxl
    have hsucc := ofN_succ (p := fun x => decide (x.2.1 = i)) hx
    refine WP.skip <| WP.seq <| WP.block <| WP.seq <| WP.region <| v0 (S0.move rfl) rfl <| v0 (S0.nilCheck rfl) rfl <| v0 (S0.fieldAddr rfl) rfl <| v0 (S0.load rfl rfl) rfl <| v0 (S0.move rfl) rfl <| ?_  -- op t22 := indexAddr 27 t20 t21
    refine v0 (S0.indexN (k := 3) rfl rfl hlt) rfl <| ?_
    refine v0 (S0.fieldAddr rfl) rfl <| ?_  -- limit
    refine v0 (S0.load rfl (flat_get enK_len sp1 L k 1 x hx (by decide))) rfl <| ?_
    refine v0 (S0.move rfl) rfl <| v0 (S0.cmp rfl rfl rfl) rfl <| vE <| ?_  -- cond
    first | refine WP.condP rfl (fun h2 => ?_) (fun h2 => ?_) | refine WP.condN rfl (fun h2 => ?_) (fun h2 => ?_) | refine WP.cond rfl (fun h2 => ?_) (fun h2 => ?_)
    · skip
      rw [if_pos (by simpa using h2)] at hsucc
      refine WP.region <| v0 (S0.move rfl) rfl <| v0 (S0.move rfl) rfl <| v0 (S0.nilCheck rfl) rfl <| v0 (S0.fieldAddr rfl) rfl <| v0 (S0.load rfl rfl) rfl <| v0 (S0.move rfl) rfl <| ?_  -- op t33 := indexAddr 27 t31 t32
      refine v0 (S0.indexN (k := 3) rfl rfl hlt) rfl <| ?_
      refine v0 (S0.fieldAddr rfl) rfl <| ?_  -- limit
      refine v0 (S0.load rfl (flat_get enK_len sp1 L k 0 x hx (by decide))) rfl <| ?_
      -- (nothing to walk: op t36 := call F48{rivulet/rivuletref04.Insert}(t27, t35))
      refine vc (S1.callF rfl (rinsert_spec hos (by omega) hix hxl) (take1 at0 take0)) rfl ?_
      rintro v2 _ ⟨row2, hs2, rfl⟩
      refine app ?_
      rw [← hsucc] at hs2
      refine v0 (S0.assign rfl) rfl <| vE <| WP.region <| v0 (S0.move rfl) rfl <| v0 (S0.ari rfl rfl rfl (wrap_i64 (by omega))) rfl <| v0 (S0.assign rfl) rfl <| vE <| ?_  -- roundend
      exact ⟨(k + 1, v2, row2), (by first | exact ⟨hlt, hs2⟩ | (dsimp only; exact ⟨hlt, hs2⟩)), (show L.length - (k + 1) < L.length - k by omega), ⟨⟨rfl, rfl, rfl, rfl, trivial⟩, rfl, rfl⟩, ⟨_, (take1 at0 (take1 at0 take0))⟩⟩
    · skip
      rw [if_neg (by simpa using h2)] at hsucc
      refine WP.skip <| WP.region <| v0 (S0.move rfl) rfl <| v0 (S0.ari rfl rfl rfl (wrap_i64 (by omega))) rfl <| v0 (S0.assign rfl) rfl <| vE <| ?_  -- roundend
      exact ⟨(k + 1, ov, orow), (by first | exact ⟨hlt, by rw [hsucc]; exact hos⟩ | (dsimp only; exact ⟨hlt, by rw [hsucc]; exact hos⟩)), (show L.length - (k + 1) < L.length - k by omega), ⟨⟨rfl, rfl, rfl, rfl, trivial⟩, rfl, rfl⟩, ⟨_, (take1 at0 (take1 at0 take0))⟩⟩
  · skip
    have e : k = L.length := by omega
    refine WP.exit <| WP.seq <| WP.region <| v0 (S0.move rfl) rfl <| v0 (S0.assign rfl) rfl <| vE <| WP.ret <| ?_  -- ret
    refine r1 rfl rfl ?_
    exact ⟨orow, by rw [show ofK L i = ofN L (fun x => decide (x.2.1 = i)) k by rw [e]; simp [ofK, ofN]]; exact hos, rfl⟩
theorem rall_spec {rb : Nat} {L : Asks} {c : List Blk} {m : Nat} (hc : IsRT rb L c) (hok : AsksOk L) (hb : AskB L m) (hm : m ≤ 1000) :
    FN Tryz.prog 22 [.pointer (some ⟨rb, 0, none⟩)] [c] (fun v h => ∃ row, IsSl 9 1 v (strs (allK L)) row ∧ h = [row, c]) := by
  have hbl := hb.len
  have hfl : ∀ x ∈ L, x.1.length ≤ 1000 := fun x hx => by have := filt_len (hok.filt x hx).1; omega
  obtain ⟨v, row, hsl, rfl⟩ := hc
  obtain ⟨a, cap, rfl, hcap, hrow⟩ := IsSl.elems (k := 2) enK_len hsl
  refine FN.intro 26 [(0, .pointer (some ⟨rb, 0, none⟩))] Tryz.func22 rfl (enters Tryz.func22 (by kernel_rfl) rfl) Tryz.ntmps22 rfl rfl ?_
  refine WP.seq <| WP.region <| v0 (S0.assign rfl) rfl <| vE <| WP.seq <| WP.region <| vnv (S1.buildSlice rfl (qs := []) rfl rfl) rfl fun b5 => v0 (S0.assign rfl) rfl <| vE <| WP.seq <| WP.seq <| WP.region <| v0 (S0.assign rfl) rfl <| vE <| WP.block <| ?_  -- Code.loop
  refine WP.loop (fun st : Nat × Value × List Blk => st.1 ≤ L.length ∧ IsSl 9 1 st.2.1 (strs (ofN L (fun _ => true) st.1)) st.2.2) (fun st : Nat × Value × List Blk => [(0, .pointer (some ⟨rb, 0, none⟩)), (3, st.2.1), (4, .int .i64 (st.1 : Int))]) (fun st : Nat × Value × List Blk => [st.2.2, (rb, cel [.slice a L.length cap] 29) :: row]) (fun st : Nat × Value × List Blk => L.length - st.1) ((0, _, [(b5, .cells ⟨[]⟩ 9 (0, 0))])) (⟨Nat.zero_le _, IsSl.row (n := 0) (c := 0) (l := []) (sp := []) rfl rfl (Nat.le_refl _)⟩) ⟨rfl, rfl, rfl, trivial⟩ ⟨_, (take1 at0 (take1 at0 take0))⟩ (fun st hinv => ?_) 
  obtain ⟨k, ov, orow⟩ := st
  obtain ⟨hk, hos⟩ := hinv
  dsimp only at hk hos ⊢
  have hil := ofN_len L (fun _ => true) k
  have hix := ofN_mem (p := fun _ => true) (k := k) hfl
  refine WP.seq <| WP.seq <| WP.region <| v0 (S0.move rfl) rfl <| v0 (S0.move rfl) rfl <| v0 (S0.nilCheck rfl) rfl <| v0 (S0.fieldAddr rfl) rfl <| v0 (S0.load rfl rfl) rfl <| v0 (S0.lenSl rfl) rfl <| v0 (S0.cmp rfl rfl rfl) rfl <| vE <| ?_  -- cond
  first | refine WP.condP rfl (fun h1 => ?_) (fun h1 => ?_) | refine WP.condN rfl (fun h1 => ?_) (fun h1 => ?_) | refine WP.cond rfl (fun h1 => ?_) (fun h1 => ?_)
  · skip
    have hlt : k < L.length := by omega
    rcases hrow with ⟨e, -⟩ | ⟨b1, sp1, rfl, rfl, hsp1⟩
    · rw [e] at hlt; simp at hlt
    have hx : L[k]? = some L[k] := by simp [hlt]
    have hxl := hfl _ (List.getElem_mem hlt)
    generalize L[k] = x at hx hxl
    have hsucc := ofN_succ (p := fun _ => true) hx
    rw [if_pos rfl] at hsucc
    refine WP.skip <| WP.seq <| WP.block <| WP.region <| v0 (S0.move rfl) rfl <| v0 (S0.move rfl) rfl <| v0 (S0.nilCheck rfl) rfl <| v0 (S0.fieldAddr rfl) rfl <| v0 (S0.load rfl rfl) rfl <| v0 (S0.move rfl) rfl <| ?_  -- op t21 := indexAddr 27 t19 t20
    refine v0 (S0.indexN (k := 3) rfl rfl hlt) rfl <| ?_
    refine v0 (S0.fieldAddr rfl) rfl <| ?_  -- limit
    refine v0 (S0.load rfl (flat_get enK_len sp1 L k 0 x hx (by decide))) rfl <| ?_
    -- (nothing to walk: op t24 := call F48{rivulet/rivuletref04.Insert}(t15, t23))
    refine vc (S1.callF rfl (rinsert_spec hos (by omega) hix hxl) (take1 at0 take0)) rfl ?_
    rintro v2 _ ⟨row2, hs2, rfl⟩
    refine app ?_
    rw [← hsucc] at hs2
    refine v0 (S0.assign rfl) rfl <| vE <| WP.region <| v0 (S0.move rfl) rfl <| v0 (S0.ari rfl rfl rfl (wrap_i64 (by omega))) rfl <| v0 (S0.assign rfl) rfl <| vE <| ?_  -- roundend
    exact ⟨(k + 1, v2, row2), (by first | exact ⟨hlt, hs2⟩ | (dsimp only; exact ⟨hlt, hs2⟩)), (show L.length - (k + 1) < L.length - k by omega), ⟨⟨rfl, rfl, rfl, trivial⟩, rfl, rfl⟩, ⟨_, (take1 at0 (take1 at0 take0))⟩⟩
  · skip
    have e : k = L.length := by omega
    refine WP.exit <| WP.seq <| WP.region <| v0 (S0.move rfl) rfl <| v0 (S0.assign rfl) rfl <| vE <| WP.ret <| ?_  -- ret
    refine r1 rfl rfl ?_
    exact ⟨orow, by rw [show allK L = ofN L (fun _ => true) k by rw [e]; simp only [allK, ofN, List.take_length]; rw [List.filter_eq_self.2 (fun _ _ => rfl)]]; exact hos, rfl⟩
theorem rleave_spec {rb : Nat} {L : Asks} {c : List Blk} {m : Nat} (hc : IsRT rb L c) (hok : AsksOk L) (hb : AskB L m) (hm : m ≤ 100000) (i : Int) :
    FN Tryz.prog 39 [.pointer (some ⟨rb, 0, none⟩), .int .i64 i] [c] (fun v h => ∃ c', v = .int .i64 ((ofK L i).length : Int) ∧ IsRT rb (leaveK L i) c' ∧ h = [c']) := by
  have hbl := hb.len
  have hlv := leave_len L i
  have hof := ofK_len hok i
  have hdif : (L.length : Int) - ((leaveK L i).length : Int) = ((ofK L i).length : Int) := by omega
  obtain ⟨v, row, hsl, rfl⟩ := hc
  obtain ⟨a, cap, rfl, hcap, hrow⟩ := IsSl.elems (k := 2) enK_len hsl
  refine FN.intro 51 [(0, .pointer (some ⟨rb, 0, none⟩)), (1, .int .i64 i)] Tryz.func39 rfl (enters Tryz.func39 (by kernel_rfl) rfl) Tryz.ntmps39 rfl rfl ?_
  refine WP.seq <| WP.region <| v0 (S0.assign rfl) rfl <| vE <| WP.seq <| WP.region <| vnv (S1.buildSlice rfl (qs := []) rfl rfl) rfl fun b8 => v0 (S0.assign rfl) rfl <| vE <| WP.seq <| WP.seq <| WP.region <| v0 (S0.assign rfl) rfl <| vE <| WP.block <| ?_  -- Code.loop
  refine WP.loop (fun st : Nat × Value × List Blk => st.1 ≤ L.length ∧ IsSl 74 3 st.2.1 ((leaveK (L.take st.1) i).flatMap enK) st.2.2) (fun st : Nat × Value × List Blk => [(0, .pointer (some ⟨rb, 0, none⟩)), (1, .int .i64 i), (5, st.2.1), (6, .int .i64 (st.1 : Int))]) (fun st : Nat × Value × List Blk => [st.2.2, (rb, cel [.slice a L.length cap] 29) :: row]) (fun st : Nat × Value × List Blk => L.length - st.1) ((0, _, [(b8, .cells ⟨[]⟩ 74 (0, 0))])) (⟨Nat.zero_le _, IsSl.row (n := 0) (c := 0) (l := []) (sp := []) rfl rfl (Nat.le_refl _)⟩) ⟨rfl, rfl, rfl, rfl, trivial⟩ ⟨_, (take1 at0 (take1 at0 take0))⟩ (fun st hinv => ?_) 
  obtain ⟨k, ov, orow⟩ := st
  obtain ⟨hk, hos⟩ := hinv
  dsimp only at hk hos ⊢
  have hil := List.length_filter_le (fun x : Str × Int × Int => !decide (x.2.1 = i)) (L.take k)
  refine WP.seq <| WP.seq <| WP.region <| v0 (S0.move rfl) rfl <| v0 (S0.move rfl) rfl <| v0 (S0.nilCheck rfl) rfl <| v0 (S0.fieldAddr rfl) rfl <| v0 (S0.load rfl rfl) rfl <| v0 (S0.lenSl rfl) rfl <| v0 (S0.cmp rfl rfl rfl) rfl <| vE <| ?_  -- cond
  first | refine WP.condP rfl (fun h1 => ?_) (fun h1 => ?_) | refine WP.condN rfl (fun h1 => ?_) (fun h1 => ?_) | refine WP.cond rfl (fun h1 => ?_) (fun h1 => ?_)
  · skip
    have hlt : k < L.length := by omega
    rcases hrow with ⟨e, -⟩ | ⟨b1, sp1, rfl, rfl, hsp1⟩
    · rw [e] at hlt; simp at hlt
    have hx : L[k]? = some L[k] := by simp [hlt]
    generalize L[k] = x at hx
    have hsucc : leaveK (L.take (k + 1)) i = if x.2.1 = i then leaveK (L.take k) i else leaveK (L.take k) i ++ [x] := by
      unfold leaveK
      rw [take_one hx, List.filter_append]
      by_cases h : x.2.1 = i <;> simp [h]
    refine WP.skip <| WP.seq <| WP.block <| WP.seq <| WP.region <| v0 (S0.move rfl) rfl <| v0 (S0.nilCheck rfl) rfl <| v0 (S0.fieldAddr rfl) rfl <| v0 (S0.load rfl rfl) rfl <| v0 (S0.move rfl) rfl <| ?_  -- op t23 := indexAddr 27 t21 t22
    refine v0 (S0.indexN (k := 3) rfl rfl hlt) rfl <| ?_
    refine v0 (S0.fieldAddr rfl) rfl <| ?_  -- limit
    refine v0 (S0.load rfl (flat_get enK_len sp1 L k 1 x hx (by decide))) rfl <| ?_
    refine v0 (S0.move rfl) rfl <| v0 (S0.cmp rfl rfl rfl) rfl <| vE <| ?_  -- cond
    first | refine WP.condP rfl (fun h2 => ?_) (fun h2 => ?_) | refine WP.condN rfl (fun h2 => ?_) (fun h2 => ?_) | refine WP.cond rfl (fun h2 => ?_) (fun h2 => ?_)
    · skip
      rw [if_neg h2] at hsucc
      refine WP.region <| v0 (S0.move rfl) rfl <| v0 (S0.move rfl) rfl <| v0 (S0.nilCheck rfl) rfl <| v0 (S0.fieldAddr rfl) rfl <| v0 (S0.load rfl rfl) rfl <| v0 (S0.move rfl) rfl <| ?_  -- op t34 := indexAddr 27 t32 t33
      refine v0 (S0.indexN (k := 3) rfl rfl hlt) rfl <| ?_
      refine v0 (S0.loadA rfl (flat_take enK_len sp1 L k x hx) rfl) rfl <| ?_
      refine vnv (S1.buildSlice rfl (qs := [(0, _)]) rfl rfl) rfl fun b36 => ?_  -- op t37 := append(t28, t36) :[27, 27]
      refine ve (S1.appendL rfl hos rfl rfl (atS at0) rfl rfl (by unfold leaveK; rw [flat_len enK_len]; simp at hil ⊢; omega)) rfl ?_
      rintro v2 _ ⟨row2, hs2, rfl⟩
      refine v0 (S0.assign rfl) rfl <| vE <| WP.region <| v0 (S0.move rfl) rfl <| v0 (S0.ari rfl rfl rfl (wrap_i64 (by omega))) rfl <| v0 (S0.assign rfl) rfl <| vE <| ?_  -- roundend
      exact ⟨(k + 1, v2, row2), (by first | exact ⟨hlt, by rw [hsucc, List.flatMap_append]; simpa using hs2⟩ | (dsimp only; exact ⟨hlt, by rw [hsucc, List.flatMap_append]; simpa using hs2⟩)), (show L.length - (k + 1) < L.length - k by omega), ⟨⟨rfl, rfl, rfl, rfl, trivial⟩, rfl, rfl⟩, ⟨_, (take1 at0 (take1 (atS at0) take0))⟩⟩
    · skip
      rw [if_pos (by simpa using h2)] at hsucc
      refine WP.skip <| WP.region <| v0 (S0.move rfl) rfl <| v0 (S0.ari rfl rfl rfl (wrap_i64 (by omega))) rfl <| v0 (S0.assign rfl) rfl <| vE <| ?_  -- roundend
      exact ⟨(k + 1, ov, orow), (by first | exact ⟨hlt, by rw [hsucc]; exact hos⟩ | (dsimp only; exact ⟨hlt, by rw [hsucc]; exact hos⟩)), (show L.length - (k + 1) < L.length - k by omega), ⟨⟨rfl, rfl, rfl, rfl, trivial⟩, rfl, rfl⟩, ⟨_, (take1 at0 (take1 at0 take0))⟩⟩
  · skip
    have e : k = L.length := by omega
    rw [e, List.take_length] at hos
    obtain ⟨oa, oc, rfl, hoc, -⟩ := IsSl.elems (k := 2) enK_len hos
    refine WP.exit <| WP.seq <| WP.region <| v0 (S0.move rfl) rfl <| v0 (S0.nilCheck rfl) rfl <| v0 (S0.fieldAddr rfl) rfl <| v0 (S0.load rfl rfl) rfl <| v0 (S0.lenSl rfl) rfl <| v0 (S0.move rfl) rfl <| v0 (S0.lenSl rfl) rfl <| v0 (S0.ari rfl rfl rfl (wrap_i64 (by omega))) rfl <| v0 (S0.assign rfl) rfl <| vE <| WP.seq <| WP.region <| v0 (S0.move rfl) rfl <| v0 (S0.move rfl) rfl <| v0 (S0.nilCheck rfl) rfl <| v0 (S0.fieldAddr rfl) rfl <| vs (S1.store rfl rfl (by first | rfl | exact IsSl.cv (by assumption))) <| vE <| WP.seq <| WP.region <| v0 (S0.move rfl) rfl <| v0 (S0.assign rfl) rfl <| vE <| WP.ret <| ?_  -- ret
    refine Leaves.drop (h' := [(rb, cel [.slice oa (leaveK L i).length oc] 29) :: orow]) (k := [row]) (pm fun a_ => by (try simp only [List.flatten_append, List.flatten_cons, List.flatten_nil, List.append_nil, List.cons_append, List.nil_append, List.append_assoc, nOf_app, nOf_cons, nOf_nil, Nat.add_zero, Nat.zero_add, List.map_append, List.map_cons, List.map_nil, cel, sv]); omega) ?_
    refine r1 rfl rfl ?_
    refine ⟨_, ?_, ⟨_, _, hos, rfl⟩, rfl⟩
    rw [hdif]
end Go.Proofs.YtmkgokjfkmbcoaaGreatDoor
/- IntsR -/
namespace Go.Proofs.YtmkgokjfkmbcoaaGreatDoor
open Go

theorem ints_spec {v1 v2 : Value} {q1 q2 : List Blk} {a b : List Int} (h1 : IsSl 3 1 v1 (ints a) q1) (h2 : IsSl 3 1 v2 (ints b) q2) (ha : a.length ≤ 1000000000) : FN Tryz.prog 19 [v1, v2] [q1, q2] (is (.bool (decide (a = b))) [q1, q2]) := by
  obtain ⟨a1, c1, rfl, hc1, hr1⟩ := h1.intsE
  obtain ⟨a2, c2, rfl, hc2, hr2⟩ := h2.intsE
  refine FN.intro 26 [(0, .slice a1 a.length c1), (1, .slice a2 b.length c2)] Tryz.func19 rfl (enters Tryz.func19 (by kernel_rfl) rfl) Tryz.ntmps19 rfl rfl ?_
  refine WP.seq <| WP.region <| v0 (S0.assign rfl) rfl <| vE <| WP.seq <| WP.seq <| WP.region <| v0 (S0.move rfl) rfl <| v0 (S0.lenSl rfl) rfl <| v0 (S0.move rfl) rfl <| v0 (S0.lenSl rfl) rfl <| v0 (S0.cmp rfl rfl rfl) rfl <| vE <| ?_  -- cond
  first | refine WP.condP rfl (fun hl => ?_) (fun hl => ?_) | refine WP.condN rfl (fun hl => ?_) (fun hl => ?_) | refine WP.cond rfl (fun hl => ?_) (fun hl => ?_)
  · skip
    refine WP.seq <| WP.region <| v0 (S0.assign rfl) rfl <| vE <| WP.ret <| ?_  -- ret
    refine r1 rfl rfl ⟨?_, rfl⟩
    have : a ≠ b := fun e => hl (by rw [e])
    simp [this]
  · skip
    refine WP.skip <| WP.seq <| WP.seq <| WP.region <| v0 (S0.assign rfl) rfl <| vE <| WP.block <| ?_  -- Code.loop
    refine WP.loop (fun i : Nat => i ≤ a.length ∧ a.take i = b.take i) (fun i : Nat => [(0, .slice a1 a.length c1), (1, .slice a2 b.length c2), (5, .int .i64 (i : Int))]) (fun i : Nat => [q1, q2]) (fun i : Nat => a.length - i) (0) (⟨by omega, rfl⟩) ⟨rfl, rfl, rfl, trivial⟩ ⟨_, (take1 at0 (take1 at0 take0))⟩ (fun i hinv => ?_) 
    obtain ⟨hi, htk⟩ := hinv
    refine WP.seq <| WP.seq <| WP.region <| v0 (S0.move rfl) rfl <| v0 (S0.move rfl) rfl <| v0 (S0.lenSl rfl) rfl <| v0 (S0.cmp rfl rfl rfl) rfl <| vE <| ?_  -- cond
    first | refine WP.condP rfl (fun h3 => ?_) (fun h3 => ?_) | refine WP.condN rfl (fun h3 => ?_) (fun h3 => ?_) | refine WP.cond rfl (fun h3 => ?_) (fun h3 => ?_)
    · skip
      have hlt : i < a.length := by omega
      have hlt2 : i < b.length := by omega
      rcases hr1 with ⟨rfl, -⟩ | ⟨b1, sp1, rfl, rfl, hsp1⟩
      · simp at hlt
      rcases hr2 with ⟨rfl, -⟩ | ⟨b2, sp2, rfl, rfl, hsp2⟩
      · simp at hlt2
      have hx : a[i]? = some a[i] := by simp [hlt]
      have hy : b[i]? = some b[i] := by simp [hlt2]
      skip
      refine WP.skip <| WP.seq <| WP.block <| WP.seq <| WP.drawP [(0, none), (1, none), (2, none), (3, none), (4, none), (5, none), (6, none), (7, none), (8, none)] mixed (by kernel_rfl) (by kernel_rfl) (by kernel_rfl) (take1 at0 (take1 at0 take0)) <| w0 rfl rfl rfl (S0.move rfl) rfl <| w0 rfl rfl rfl (S0.move rfl) rfl <| ?_  -- op t19 := indexAddr 38 t17 t18
      refine w0 rfl rfl rfl (S0.index1 rfl rfl hlt) rfl <| ?_
      refine w0 rfl rfl rfl (S0.load rfl (ints_get hx)) rfl <| ?_
      refine w0 rfl rfl rfl (S0.move rfl) rfl <| w0 rfl rfl rfl (S0.move rfl) rfl <| ?_  -- op t23 := indexAddr 38 t21 t22
      refine w0 rfl rfl rfl (S0.index1 rfl rfl hlt2) rfl <| ?_
      refine w0 rfl rfl rfl (S0.load rfl (ints_get hy)) rfl <| ?_
      refine w0 rfl rfl rfl (S0.cmp rfl rfl rfl) rfl <| wE <| ?_  -- cond
      first | refine WP.condP rfl (fun h4 => ?_) (fun h4 => ?_) | refine WP.condN rfl (fun h4 => ?_) (fun h4 => ?_) | refine WP.cond rfl (fun h4 => ?_) (fun h4 => ?_)
      · skip
        refine WP.seq <| WP.region <| v0 (S0.assign rfl) rfl <| vE <| WP.ret <| ?_  -- ret
        refine r1 rfl rfl ⟨?_, rfl⟩
        have : a ≠ b := fun e => h4 (by subst e; rfl)
        simp [this]
      · skip
        refine WP.skip <| WP.region <| v0 (S0.move rfl) rfl <| v0 (S0.ari rfl rfl rfl (wrap_i64 (by omega))) rfl <| v0 (S0.assign rfl) rfl <| vE <| ?_  -- roundend
        exact ⟨i + 1, (by first | exact ⟨hlt, by rw [List.take_add_one, List.take_add_one, hx, hy, htk]; congr 2; simpa using h4⟩ | (dsimp only; exact ⟨hlt, by rw [List.take_add_one, List.take_add_one, hx, hy, htk]; congr 2; simpa using h4⟩)), (by omega), ⟨⟨rfl, rfl, rfl, trivial⟩, rfl, rfl⟩, ⟨_, (take1 at0 (take1 at0 take0))⟩⟩
    · skip
      refine WP.exit <| WP.seq <| WP.region <| v0 (S0.assign rfl) rfl <| vE <| WP.ret <| ?_  -- ret
      refine r1 rfl rfl ⟨?_, rfl⟩
      have : a = b := by
        rw [List.take_of_length_le (by omega), List.take_of_length_le (by omega)] at htk
        exact htk
      simp [this]
end Go.Proofs.YtmkgokjfkmbcoaaGreatDoor
/- L1 -/
namespace Go.Proofs.YtmkgokjfkmbcoaaGreatDoor
open Go

/-- a call: which, a filter, who, a topic -/
abbrev OpT := Int × Str × Int × Str
abbrev enO (x : OpT) : List Value := [.int .i64 x.1, sv x.2.1, .int .i64 x.2.2.1, sv x.2.2.2]
theorem enO_len (x : OpT) : (enO x).length = 3 + 1 := rfl
theorem enO_cv (x : OpT) : (enO x).all cellV = true := rfl
abbrev opK : List CK := [.i .i64, .s, .i .i64, .s]
theorem argOps {W : World} {v : Value} (h : ArgF W opK v) : ∃ l : List OpT, Rd 4 enO v l (whole W) := by
  obtain ⟨a, len, cap, rfl, hc, h⟩ := h
  rcases h with rfl | ⟨b, o, L, U, fz, rfl, hm, hf⟩
  · exact ⟨[], ⟨a, cap, rfl, hc, .inl rfl⟩⟩
  · obtain ⟨l, h1, -, h3⟩ := choose_elems (k := 4) (en := enO) (Q := fun _ => True) (L := L) (o := o) (len := len) fun i hi => by
      have hf := hf i hi
      obtain ⟨_, e0, n0, rfl, -⟩ := hf 0 _ rfl
      obtain ⟨_, e1, n1, rfl, -⟩ := hf 1 _ rfl
      obtain ⟨_, e2, n2, rfl, -⟩ := hf 2 _ rfl
      obtain ⟨_, e3, n3, rfl, -⟩ := hf 3 _ rfl
      refine ⟨(n0, n1, n2, n3), trivial, take_cells (enO (n0, n1, n2, n3)) _ fun j x hj => ?_⟩
      match j, hj with
      | 0, hj => cases hj; exact e0
      | 1, hj => cases hj; exact e1
      | 2, hj => cases hj; exact e2
      | 3, hj => cases hj; exact e3
    subst h1
    exact ⟨l, ⟨_, cap, rfl, hc, .inr ⟨b, o, L, U, fz, rfl, whole_mem.2 hm, h3⟩⟩⟩
def cutO (x : OpT) : OpT := (x.1, x.2.1.take 150, x.2.2.1, x.2.2.2.take 150)
def cutOs (l : List OpT) : List OpT := (l.take 60).map cutO
theorem cutOs_len (l : List OpT) : (cutOs l).length ≤ 60 := by simp [cutOs]; omega
theorem cutOs_mem {l : List OpT} : ∀ x ∈ cutOs l, x.2.1.length ≤ 150 ∧ x.2.2.2.length ≤ 150 := fun x hx => by
  obtain ⟨y, -, rfl⟩ := List.mem_map.1 hx
  simp only [cutO, List.length_take]
  omega
theorem min150 (n : Nat) : (if (150 : Int) < (n : Int) then 150 else (n : Int)) = ((min n 150 : Nat) : Int) := by split <;> omega
theorem take_min150 (l : Str) : (l.drop 0).take (min l.length 150 - 0) = l.take 150 := by
  rw [List.drop_zero, Nat.sub_zero]
  rcases Nat.le_total l.length 150 with h | h
  · rw [Nat.min_eq_left h, List.take_length, List.take_of_length_le h]
  · rw [Nat.min_eq_right h]
theorem cut_spec {v : Value} {l : List OpT} {c : List Blk} (hr : Rd 4 enO v l c) : FN Tryz.prog 10 [v] [c] (fun u h => ∃ row, IsSl 31 4 u ((cutOs l).flatMap enO) row ∧ h = [row, c]) := by
  obtain ⟨a, cap, rfl, -, hr⟩ := hr
  refine FN.intro 42 [(0, .slice a l.length cap)] Tryz.func10 rfl (enters Tryz.func10 (by kernel_rfl) rfl) Tryz.ntmps10 rfl rfl ?_
  refine WP.seq <| WP.region <| v0 (S0.assign rfl) rfl <| vE <| WP.seq <| WP.region <| vnv (S1.buildSlice rfl (qs := []) rfl rfl) rfl fun b6 => v0 (S0.assign rfl) rfl <| vE <| WP.seq <| WP.seq <| WP.region <| v0 (S0.assign rfl) rfl <| vE <| WP.block <| ?_  -- Code.loop
  refine WP.loop (fun st : Nat × Value × List Blk => st.1 ≤ l.length ∧ st.1 ≤ 60 ∧ IsSl 31 4 st.2.1 (((l.take st.1).map cutO).flatMap enO) st.2.2) (fun st : Nat × Value × List Blk => [(0, .slice a l.length cap), (3, st.2.1), (4, .int .i64 (st.1 : Int))]) (fun st : Nat × Value × List Blk => [st.2.2, c]) (fun st : Nat × Value × List Blk => l.length - st.1) ((0, _, [(b6, .cells ⟨[]⟩ 31 (0, 0))])) (⟨Nat.zero_le _, Nat.zero_le _, IsSl.row (n := 0) (c := 0) (l := []) (sp := []) rfl rfl (Nat.le_refl _)⟩) ⟨rfl, rfl, rfl, trivial⟩ ⟨_, (take1 at0 (take1 at0 take0))⟩ (fun st hinv => ?_) 
  obtain ⟨i, ov, orow⟩ := st
  obtain ⟨hi, hi2, hosl⟩ := hinv
  dsimp only at hi hi2 hosl ⊢
  refine WP.seq <| WP.seq <| WP.region <| v0 (S0.move rfl) rfl <| v0 (S0.move rfl) rfl <| v0 (S0.lenSl rfl) rfl <| v0 (S0.cmp rfl rfl rfl) rfl <| v0 (S0.move rfl) rfl <| ?_  -- guard t11 (wants True) at t12 := move t4 [if #4=True]
  first | refine csP (t := 11) rfl (fun h1 => ?_) (fun h1 => ?_) | refine csN (t := 11) rfl (fun h1 => ?_) (fun h1 => ?_) | refine cs (t := 11) rfl (fun h1 => ?_) (fun h1 => ?_)
  · skip
    have hlt : i < l.length := by omega
    rcases hr with e | ⟨b, o, GL, U, fz, rfl, hmem, hel⟩
    · rw [e] at hlt; simp at hlt
    have : HasC c b (.cells ⟨GL⟩ U fz) := ⟨hmem⟩
    have hx : l[i]? = some l[i] := by simp [hlt]
    generalize l[i] = x at hx
    obtain ⟨x0, x1, x2, x3⟩ := x
    have hele : (GL.drop (o + i * 4)).take 4 = [.int .i64 x0, sv x1, .int .i64 x2, sv x3] := hel i _ hx
    have htk := take_one hx
    refine gT rfl <| v0 (S0.move rfl) rfl <| gT rfl <| v0 (S0.cmp rfl rfl rfl) rfl <| v0 (S0.pickT rfl rfl) rfl <| vE <| ?_  -- cond
    first | refine WP.condP rfl (fun h2 => ?_) (fun h2 => ?_) | refine WP.condN rfl (fun h2 => ?_) (fun h2 => ?_) | refine WP.cond rfl (fun h2 => ?_) (fun h2 => ?_)
    · skip
      refine WP.skip <| WP.seq <| WP.block <| WP.seq <| WP.region <| v0 (S0.move rfl) rfl <| v0 (S0.move rfl) rfl <| ?_  -- op t19 := indexAddr 22 t17 t18
      refine v0 (S0.indexO (k := 4) rfl rfl hlt) rfl <| ?_
      refine v0 (S0.loadA rfl hele rfl) rfl <| ?_
      refine vn (S1.alloc) rfl fun b5 => vs (S1.storeA rfl rfl rfl) <| vE <| WP.seq <| WP.region <| v0 (S0.fieldAddr rfl) rfl <| v0 (S0.load rfl rfl) rfl <| v0 (S0.fieldAddr rfl) rfl <| v0 (S0.load rfl rfl) rfl <| v0 (S0.lenSt rfl) rfl <| v0 (S0.min2 rfl rfl rfl) rfl <| ?_  -- op t27 := slice 9 t22 none t26 none
      rw [min150]
      refine v0 (S0.sliceSt (i := 0) (j := min x1.length 150) rfl rfl rfl ⟨Nat.zero_le _, by omega⟩) rfl <| ?_
      rw [take_min150]
      refine v0 (S0.fieldAddr rfl) rfl <| vs (S1.store rfl rfl (by first | rfl | exact IsSl.cv (by assumption))) <| vE <| WP.seq <| WP.region <| v0 (S0.fieldAddr rfl) rfl <| v0 (S0.load rfl rfl) rfl <| v0 (S0.fieldAddr rfl) rfl <| v0 (S0.load rfl rfl) rfl <| v0 (S0.lenSt rfl) rfl <| v0 (S0.min2 rfl rfl rfl) rfl <| ?_  -- op t35 := slice 9 t30 none t34 none
      rw [min150]
      refine v0 (S0.sliceSt (i := 0) (j := min x3.length 150) rfl rfl rfl ⟨Nat.zero_le _, by omega⟩) rfl <| ?_
      rw [take_min150]
      refine v0 (S0.fieldAddr rfl) rfl <| vs (S1.store rfl rfl (by first | rfl | exact IsSl.cv (by assumption))) <| vE <| WP.region <| v0 (S0.move rfl) rfl <| v0 (S0.loadAL rfl) rfl <| vnv (S1.buildSlice rfl (qs := [(0, _)]) rfl rfl) rfl fun b39 => ?_  -- op t40 := append(t37, t39) :[22, 22]
      refine ve (S1.appendL rfl hosl rfl rfl (atS (atS at0)) rfl rfl (by rw [flat_len enO_len]; simp; omega)) rfl ?_
      rintro v2 _ ⟨row2, hsl2, rfl⟩
      have hsl3 : IsSl 31 4 v2 (((l.take (i + 1)).map cutO).flatMap enO) row2 := by
        rw [htk, List.map_append, List.flatMap_append]
        simpa [cutO] using hsl2
      refine v0 (S0.assign rfl) rfl <| vE <| WP.region <| v0 (S0.move rfl) rfl <| v0 (S0.ari rfl rfl rfl (wrap_i64 (by omega))) rfl <| v0 (S0.assign rfl) rfl <| vE <| ?_  -- roundend
      exact ⟨(i + 1, v2, row2), (by first | exact ⟨hlt, by omega, hsl3⟩ | (dsimp only; exact ⟨hlt, by omega, hsl3⟩)), (show l.length - (i + 1) < l.length - i by omega), ⟨⟨rfl, rfl, rfl, trivial⟩, rfl, rfl⟩, ⟨_, (take1 at0 (take1 (atS (atS at0)) take0))⟩⟩
    · skip
      refine WP.exit <| WP.seq <| WP.region <| v0 (S0.move rfl) rfl <| v0 (S0.assign rfl) rfl <| vE <| WP.ret <| ?_  -- ret
      refine r1 rfl rfl ?_
      exact ⟨orow, by rw [cutOs, ← show i = 60 by omega]; exact hosl, rfl⟩
  · skip
    refine gF rfl rfl <| gF rfl rfl <| v0 (S0.pickF rfl rfl) rfl <| vE <| WP.condF rfl <| WP.exit <| WP.seq <| WP.region <| v0 (S0.move rfl) rfl <| v0 (S0.assign rfl) rfl <| vE <| WP.ret <| ?_  -- ret
    refine r1 rfl rfl ?_
    exact ⟨orow, by rw [cutOs, List.take_of_length_le (by omega)]; rw [List.take_of_length_le (by omega)] at hosl; exact hosl, rfl⟩
def playR (L : Asks) (x : OpT) : Asks := if x.1 = 0 then addR L x.2.1 x.2.2.1 else if x.1 = 1 then dropR L x.2.1 x.2.2.1 else if x.1 = 2 then leaveK L x.2.2.1 else L
def playV (L : Asks) (x : OpT) : Int := if x.1 = 0 then addV L x.2.1 x.2.2.1 else if x.1 = 1 then dropV L x.2.1 x.2.2.1 else if x.1 = 2 then ((ofK L x.2.2.1).length : Int) else 0
def playE (L : Asks) (x : OpT) : Int := if x.1 = 0 then addE x.2.1 x.2.2.1 else if x.1 = 1 then dropE L x.2.1 x.2.2.1 else 0
theorem AskB.play {L : Asks} {m : Nat} (h : AskB L m) (x : OpT) : AskB (playR L x) (m + 1) := by
  unfold playR
  split
  · exact h.addR _ _
  · split
    · exact (h.dropR _ _).mono (Nat.le_succ m)
    · split
      · exact (h.leave _).mono (Nat.le_succ m)
      · exact h.mono (Nat.le_succ m)
theorem AsksOk.play {L : Asks} (h : AsksOk L) (x : OpT) : AsksOk (playR L x) := by
  unfold playR
  split
  · exact h.addR _ _
  · split
    · exact h.dropR _ _
    · split
      · exact h.leave _
      · exact h
theorem play_spec {tb : Nat} {L : Asks} {c : List Blk} {m : Nat} (h : IsTr tb L c) (hb : AskB L m) (hm : m ≤ 1000000) {x : OpT} (hx : x.2.1.length ≤ 1000) :
    FN Tryz.prog 15 [.pointer (some ⟨tb, 0, none⟩), .agg ⟨enO x⟩] [c] (fun v h => ∃ c', v = .tuple ⟨[.int .i64 (playV L x), .int .i64 (playE L x)]⟩ ∧ IsTr tb (playR L x) c' ∧ h = [c']) := by
  refine FN.intro 34 [(0, .pointer (some ⟨tb, 0, none⟩)), (1, .agg ⟨enO x⟩)] Tryz.func15 rfl (enters Tryz.func15 (by kernel_rfl) rfl) Tryz.ntmps15 rfl rfl ?_
  refine WP.seq <| WP.region <| vn (S1.box rfl rfl) rfl fun b3 => v0 (S0.assign rfl) rfl <| v0 (S0.assign rfl) rfl <| vE <| WP.seq <| WP.seq <| WP.region <| v0 (S0.fieldAddr rfl) rfl <| v0 (S0.load rfl rfl) rfl <| vE <| WP.block <| WP.seq <| WP.region <| v0 (S0.cmp rfl rfl rfl) rfl <| v0 (S0.assign rfl) rfl <| vE <| ?_  -- cond
  first | refine WP.condP rfl (fun h0 => ?_) (fun h0 => ?_) | refine WP.condN rfl (fun h0 => ?_) (fun h0 => ?_) | refine WP.cond rfl (fun h0 => ?_) (fun h0 => ?_)
  · skip
    refine WP.seq <| WP.region <| v0 (S0.move rfl) rfl <| v0 (S0.fieldAddr rfl) rfl <| v0 (S0.load rfl rfl) rfl <| v0 (S0.fieldAddr rfl) rfl <| v0 (S0.load rfl rfl) rfl <| ?_  -- op t15 := call F13{(*rivulet/trie.Trie).Add}(t10, t12, t14)
    refine vc (S1.callF rfl (add_spec h hb hm hx x.2.2.1) (take1 (atS at0) take0)) rfl ?_
    rintro _ _ ⟨c', rfl, h2, rfl⟩
    refine app ?_
    refine v0 (S0.extract rfl rfl) rfl <| v0 (S0.extract rfl rfl) rfl <| v0 (S0.assign rfl) rfl <| v0 (S0.assign rfl) rfl <| vE <| WP.ret <| ?_  -- ret
    refine Leaves.drop (take1 at0 take0) ?_
    refine r2 rfl rfl rfl ?_
    exact ⟨c', by rw [playV, playE, if_pos h0, if_pos h0], by rw [playR, if_pos h0]; exact h2, rfl⟩
  · skip
    refine WP.seq <| WP.region <| v0 (S0.cmp rfl rfl rfl) rfl <| v0 (S0.assign rfl) rfl <| vE <| ?_  -- cond
    first | refine WP.condP rfl (fun h1 => ?_) (fun h1 => ?_) | refine WP.condN rfl (fun h1 => ?_) (fun h1 => ?_) | refine WP.cond rfl (fun h1 => ?_) (fun h1 => ?_)
    · skip
      refine WP.seq <| WP.region <| v0 (S0.move rfl) rfl <| v0 (S0.fieldAddr rfl) rfl <| v0 (S0.load rfl rfl) rfl <| v0 (S0.fieldAddr rfl) rfl <| v0 (S0.load rfl rfl) rfl <| ?_  -- op t25 := call F30{(*rivulet/trie.Trie).Drop}(t20, t22, t24)
      refine vc (S1.callF rfl (drop_spec h hb hm hx x.2.2.1) (take1 (atS at0) take0)) rfl ?_
      rintro _ _ ⟨c', rfl, h2, rfl⟩
      refine app ?_
      refine v0 (S0.extract rfl rfl) rfl <| v0 (S0.extract rfl rfl) rfl <| v0 (S0.assign rfl) rfl <| v0 (S0.assign rfl) rfl <| vE <| WP.ret <| ?_  -- ret
      refine Leaves.drop (take1 at0 take0) ?_
      refine r2 rfl rfl rfl ?_
      exact ⟨c', by rw [playV, playE, if_neg h0, if_neg h0, if_pos h1, if_pos h1], by rw [playR, if_neg h0, if_pos h1]; exact h2, rfl⟩
    · skip
      refine WP.seq <| WP.region <| v0 (S0.cmp rfl rfl rfl) rfl <| v0 (S0.assign rfl) rfl <| vE <| ?_  -- cond
      first | refine WP.condP rfl (fun h2 => ?_) (fun h2 => ?_) | refine WP.condN rfl (fun h2 => ?_) (fun h2 => ?_) | refine WP.cond rfl (fun h2 => ?_) (fun h2 => ?_)
      · skip
        refine WP.seq <| WP.region <| v0 (S0.move rfl) rfl <| v0 (S0.fieldAddr rfl) rfl <| v0 (S0.load rfl rfl) rfl <| ?_  -- op t33 := call F14{(*rivulet/trie.Trie).Leave}(t30, t32)
        refine vc (S1.callF rfl (leave_spec h hb hm x.2.2.1) (take1 (atS at0) take0)) rfl ?_
        rintro _ _ ⟨c', rfl, h3, rfl⟩
        refine app ?_
        refine v0 (S0.assign rfl) rfl <| v0 (S0.assign rfl) rfl <| vE <| WP.ret <| ?_  -- ret
        refine Leaves.drop (take1 at0 take0) ?_
        refine r2 rfl rfl rfl ?_
        exact ⟨c', by rw [playV, playE, if_neg h0, if_neg h0, if_neg h1, if_neg h1, if_pos h2], by rw [playR, if_neg h0, if_neg h1, if_pos h2]; exact h3, rfl⟩
      · skip
        refine WP.skip <| WP.seq <| WP.region <| v0 (S0.assign rfl) rfl <| v0 (S0.assign rfl) rfl <| vE <| WP.ret <| ?_  -- ret
        refine Leaves.drop (take1 (atS at0) take0) ?_
        refine r2 rfl rfl rfl ?_
        exact ⟨c, by rw [playV, playE, if_neg h0, if_neg h0, if_neg h1, if_neg h1, if_neg h2], by rw [playR, if_neg h0, if_neg h1, if_neg h2]; exact h, rfl⟩
theorem rplay_spec {rb : Nat} {L : Asks} {c : List Blk} {m : Nat} (h : IsRT rb L c) (hok : AsksOk L) (hb : AskB L m) (hm : m ≤ 100000) {x : OpT} (hx : x.2.1.length ≤ 1000) :
    FN Tryz.prog 16 [.pointer (some ⟨rb, 0, none⟩), .agg ⟨enO x⟩] [c] (fun v h => ∃ c', v = .tuple ⟨[.int .i64 (playV L x), .int .i64 (playE L x)]⟩ ∧ IsRT rb (playR L x) c' ∧ h = [c']) := by
  refine FN.intro 34 [(0, .pointer (some ⟨rb, 0, none⟩)), (1, .agg ⟨enO x⟩)] Tryz.func16 rfl (enters Tryz.func16 (by kernel_rfl) rfl) Tryz.ntmps16 rfl rfl ?_
  refine WP.seq <| WP.region <| vn (S1.box rfl rfl) rfl fun b3 => v0 (S0.assign rfl) rfl <| v0 (S0.assign rfl) rfl <| vE <| WP.seq <| WP.seq <| WP.region <| v0 (S0.fieldAddr rfl) rfl <| v0 (S0.load rfl rfl) rfl <| vE <| WP.block <| WP.seq <| WP.region <| v0 (S0.cmp rfl rfl rfl) rfl <| v0 (S0.assign rfl) rfl <| vE <| ?_  -- cond
  first | refine WP.condP rfl (fun h0 => ?_) (fun h0 => ?_) | refine WP.condN rfl (fun h0 => ?_) (fun h0 => ?_) | refine WP.cond rfl (fun h0 => ?_) (fun h0 => ?_)
  · skip
    refine WP.seq <| WP.region <| v0 (S0.move rfl) rfl <| v0 (S0.fieldAddr rfl) rfl <| v0 (S0.load rfl rfl) rfl <| v0 (S0.fieldAddr rfl) rfl <| v0 (S0.load rfl rfl) rfl <| ?_  -- op t15 := call F37{(*rivulet/rivuletref04.Trie).Add}(t10, t12, t14)
    refine vc (S1.callF rfl (radd_spec h hok hb hm hx x.2.2.1) (take1 (atS at0) take0)) rfl ?_
    rintro _ _ ⟨c', rfl, h2, rfl⟩
    refine app ?_
    refine v0 (S0.extract rfl rfl) rfl <| v0 (S0.extract rfl rfl) rfl <| v0 (S0.assign rfl) rfl <| v0 (S0.assign rfl) rfl <| vE <| WP.ret <| ?_  -- ret
    refine Leaves.drop (take1 at0 take0) ?_
    refine r2 rfl rfl rfl ?_
    exact ⟨c', by rw [playV, playE, if_pos h0, if_pos h0], by rw [playR, if_pos h0]; exact h2, rfl⟩
  · skip
    refine WP.seq <| WP.region <| v0 (S0.cmp rfl rfl rfl) rfl <| v0 (S0.assign rfl) rfl <| vE <| ?_  -- cond
    first | refine WP.condP rfl (fun h1 => ?_) (fun h1 => ?_) | refine WP.condN rfl (fun h1 => ?_) (fun h1 => ?_) | refine WP.cond rfl (fun h1 => ?_) (fun h1 => ?_)
    · skip
      refine WP.seq <| WP.region <| v0 (S0.move rfl) rfl <| v0 (S0.fieldAddr rfl) rfl <| v0 (S0.load rfl rfl) rfl <| v0 (S0.fieldAddr rfl) rfl <| v0 (S0.load rfl rfl) rfl <| ?_  -- op t25 := call F38{(*rivulet/rivuletref04.Trie).Drop}(t20, t22, t24)
      refine vc (S1.callF rfl (rdrop_spec h hok hb hm hx x.2.2.1) (take1 (atS at0) take0)) rfl ?_
      rintro _ _ ⟨c', rfl, h2, rfl⟩
      refine app ?_
      refine v0 (S0.extract rfl rfl) rfl <| v0 (S0.extract rfl rfl) rfl <| v0 (S0.assign rfl) rfl <| v0 (S0.assign rfl) rfl <| vE <| WP.ret <| ?_  -- ret
      refine Leaves.drop (take1 at0 take0) ?_
      refine r2 rfl rfl rfl ?_
      exact ⟨c', by rw [playV, playE, if_neg h0, if_neg h0, if_pos h1, if_pos h1], by rw [playR, if_neg h0, if_pos h1]; exact h2, rfl⟩
    · skip
      refine WP.seq <| WP.region <| v0 (S0.cmp rfl rfl rfl) rfl <| v0 (S0.assign rfl) rfl <| vE <| ?_  -- cond
      first | refine WP.condP rfl (fun h2 => ?_) (fun h2 => ?_) | refine WP.condN rfl (fun h2 => ?_) (fun h2 => ?_) | refine WP.cond rfl (fun h2 => ?_) (fun h2 => ?_)
      · skip
        refine WP.seq <| WP.region <| v0 (S0.move rfl) rfl <| v0 (S0.fieldAddr rfl) rfl <| v0 (S0.load rfl rfl) rfl <| ?_  -- op t33 := call F39{(*rivulet/rivuletref04.Trie).Leave}(t30, t32)
        refine vc (S1.callF rfl (rleave_spec h hok hb hm x.2.2.1) (take1 (atS at0) take0)) rfl ?_
        rintro _ _ ⟨c', rfl, h3, rfl⟩
        refine app ?_
        refine v0 (S0.assign rfl) rfl <| v0 (S0.assign rfl) rfl <| vE <| WP.ret <| ?_  -- ret
        refine Leaves.drop (take1 at0 take0) ?_
        refine r2 rfl rfl rfl ?_
        exact ⟨c', by rw [playV, playE, if_neg h0, if_neg h0, if_neg h1, if_neg h1, if_pos h2], by rw [playR, if_neg h0, if_neg h1, if_pos h2]; exact h3, rfl⟩
      · skip
        refine WP.skip <| WP.seq <| WP.region <| v0 (S0.assign rfl) rfl <| v0 (S0.assign rfl) rfl <| vE <| WP.ret <| ?_  -- ret
        refine Leaves.drop (take1 (atS at0) take0) ?_
        refine r2 rfl rfl rfl ?_
        exact ⟨c, by rw [playV, playE, if_neg h0, if_neg h0, if_neg h1, if_neg h1, if_neg h2], by rw [playR, if_neg h0, if_neg h1, if_neg h2]; exact h, rfl⟩
end Go.Proofs.YtmkgokjfkmbcoaaGreatDoor
/- L2 -/
namespace Go.Proofs.YtmkgokjfkmbcoaaGreatDoor
open Go

theorem addc {tb : Nat} {L L' : Asks} {c : List Blk} {V E : Int} {f : Str} {i : Int} (h : IsTr tb L c) (hb : AskB L 100) (hf : f.length ≤ 1000) (e : addV L f i = V ∧ addE f i = E ∧ addR L f i = L') :
    FN Tryz.prog 13 [.pointer (some ⟨tb, 0, none⟩), sv f, .int .i64 i] [c] (fun v h => ∃ c', v = .tuple ⟨[.int .i64 V, .int .i64 E]⟩ ∧ IsTr tb L' c' ∧ h = [c']) := by
  obtain ⟨rfl, rfl, rfl⟩ := e
  exact add_spec h hb (by decide) hf i
theorem dropc {tb : Nat} {L L' : Asks} {c : List Blk} {V E : Int} {f : Str} {i : Int} (h : IsTr tb L c) (hb : AskB L 100) (hf : f.length ≤ 1000) (e : dropV L f i = V ∧ dropE L f i = E ∧ dropR L f i = L') :
    FN Tryz.prog 30 [.pointer (some ⟨tb, 0, none⟩), sv f, .int .i64 i] [c] (fun v h => ∃ c', v = .tuple ⟨[.int .i64 V, .int .i64 E]⟩ ∧ IsTr tb L' c' ∧ h = [c']) := by
  obtain ⟨rfl, rfl, rfl⟩ := e
  exact drop_spec h hb (by decide) hf i
theorem matchc {tb : Nat} {L : Asks} {c : List Blk} {s : Str} {M : List Int} (h : IsTr tb L c) (hb : AskB L 100) (hs : s.length ≤ 1000) (e : idsK L s = M) :
    FN Tryz.prog 17 [.pointer (some ⟨tb, 0, none⟩), sv s] [c] (fun v h => ∃ row, IsSl 3 1 v (ints M) row ∧ h = [row, c]) := by
  subst e
  exact match_spec0 h hb (by decide) hs
abbrev sA : Str := [97, 47, 43]
abbrev sH : Str := [35]
theorem row_int {b n : Nat} {l : List Int} (h : l.length = n) : IsSl 3 1 (.slice (some ⟨b, 0, none⟩) n n) (ints l) [(b, .cells ⟨ints l⟩ 3 (0, 0))] := by
  have := (IsSl.row (E := 3) (k := 1) (b := b) (n := n) (c := n) (l := ints l) (sp := []) (by simp [ints, h]) (by simp [ints, h]) (Nat.le_refl _))
  rwa [List.append_nil] at this
theorem row_str {b n : Nat} {l : List Str} (h : l.length = n) : RdS (.slice (some ⟨b, 0, none⟩) n n) l [(b, .cells ⟨strs l⟩ 9 (0, 0))] := by
  have := IsSl.rdS (E := 9) (R := l) (IsSl.row (E := 9) (k := 1) (b := b) (n := n) (c := n) (l := strs l) (sp := []) (by simp [strs, h]) (by simp [strs, h]) (Nat.le_refl _))
  rwa [List.append_nil] at this
set_option maxRecDepth 100000 in
theorem fixed_spec : FN Tryz.prog 27 [] [] (is (.bool true) []) := by
  have eM1 : idsK [(sA, 1, 2), (sH, 2, 1)] [97, 47, 98] = [1, 2] := by decide +kernel
  have eM2 : idsK [(sA, 1, 2), (sH, 2, 1)] [97] = [2] := by decide +kernel
  have eM3 : idsK [(sH, 2, 1)] [97] = [2] := by decide +kernel
  have eM4 : idsK [(sH, 2, 1)] [43] = [] := by decide +kernel
  have eO : ofK [(sA, 1, 2), (sH, 2, 1)] 1 = [sA] := by decide +kernel
  have eA : allK [(sH, 2, 1)] = [sH] := by decide +kernel
  have eL : leaveK [(sA, 1, 2), (sH, 2, 1)] 1 = [(sH, 2, 1)] := by decide +kernel
  have eS : hasK [(sA, 1, 2), (sH, 2, 1)] sA 1 = 2 := by decide +kernel
  refine FN.intro 155 [] Tryz.func27 rfl (enters Tryz.func27 (by kernel_rfl) rfl) Tryz.ntmps27 rfl rfl ?_
  refine WP.seq <| WP.region <| v0 (S0.assign rfl) rfl <| vE <| WP.seq <| WP.region <| ?_  -- op t19 := call F11{rivulet/trie.New}()
  refine vc (S1.callF rfl (new_spec) take0) rfl ?_
  rintro _ _ ⟨tb, c0, rfl, h0, rfl⟩
  refine app ?_
  refine v0 (S0.assign rfl) rfl <| vE <| WP.seq <| WP.seq <| WP.region <| v0 (S0.move rfl) rfl <| v0 (S0.nilP rfl rfl rfl rfl) rfl <| vE <| ?_  -- cond
  refine WP.condFh rfl (rfl) ?_
  refine WP.skip <| WP.seq <| WP.region <| v0 (S0.move rfl) rfl <| ?_  -- op t24 := call F13{(*rivulet/trie.Trie).Add}(t23, Value.string {'data': [97, 47, 43]}, 1:i64)
  refine vc (S1.callF rfl (addc (f := sA) (i := 1) (V := 1) (E := 0) (L' := [(sA, 1, 1)]) h0 ⟨by decide, by decide⟩ (by decide) (by decide +kernel)) (take1 at0 take0)) rfl ?_
  rintro _ _ ⟨c1, rfl, h1, rfl⟩
  refine app ?_
  refine v0 (S0.move rfl) rfl <| v0 (S0.extract rfl rfl) rfl <| v0 (S0.extract rfl rfl) rfl <| v0 (S0.assign rfl) rfl <| v0 (S0.assign rfl) rfl <| vE <| WP.seq <| WP.region <| v0 (S0.move rfl) rfl <| ?_  -- op t29 := call F13{(*rivulet/trie.Trie).Add}(t28, Value.string {'data': [35]}, 2:i64)
  refine vc (S1.callF rfl (addc (f := sH) (i := 2) (V := 1) (E := 0) (L' := [(sA, 1, 1), (sH, 2, 1)]) h1 ⟨by decide, by decide⟩ (by decide) (by decide +kernel)) (take1 at0 take0)) rfl ?_
  rintro _ _ ⟨c2, rfl, h2, rfl⟩
  refine app ?_
  refine v0 (S0.move rfl) rfl <| v0 (S0.extract rfl rfl) rfl <| v0 (S0.extract rfl rfl) rfl <| v0 (S0.assign rfl) rfl <| v0 (S0.assign rfl) rfl <| vE <| WP.seq <| WP.region <| v0 (S0.move rfl) rfl <| ?_  -- op t34 := call F13{(*rivulet/trie.Trie).Add}(t33, Value.string {'data': [97, 47, 43]}, 1:i64)
  refine vc (S1.callF rfl (addc (f := sA) (i := 1) (V := 2) (E := 0) (L' := [(sA, 1, 2), (sH, 2, 1)]) h2 ⟨by decide, by decide⟩ (by decide) (by decide +kernel)) (take1 at0 take0)) rfl ?_
  rintro _ _ ⟨c3, rfl, h3, rfl⟩
  refine app ?_
  refine v0 (S0.move rfl) rfl <| v0 (S0.extract rfl rfl) rfl <| v0 (S0.extract rfl rfl) rfl <| v0 (S0.assign rfl) rfl <| v0 (S0.assign rfl) rfl <| vE <| WP.seq <| WP.region <| v0 (S0.move rfl) rfl <| ?_  -- op t39 := call F13{(*rivulet/trie.Trie).Add}(t38, Value.string {'data': [97, 47, 35, 47, 98]}, 1:i64)
  refine vc (S1.callF rfl (addc (f := [97, 47, 35, 47, 98]) (i := 1) (V := 0) (E := 1) (L' := [(sA, 1, 2), (sH, 2, 1)]) h3 ⟨by decide, by decide⟩ (by decide) (by decide +kernel)) (take1 at0 take0)) rfl ?_
  rintro _ _ ⟨c4, rfl, h4, rfl⟩
  refine app ?_
  refine v0 (S0.move rfl) rfl <| v0 (S0.extract rfl rfl) rfl <| v0 (S0.extract rfl rfl) rfl <| v0 (S0.assign rfl) rfl <| v0 (S0.assign rfl) rfl <| vE <| WP.seq <| WP.region <| v0 (S0.move rfl) rfl <| ?_  -- op t44 := call F30{(*rivulet/trie.Trie).Drop}(t43, Value.string {'data': [97]}, 1:i64)
  refine vc (S1.callF rfl (dropc (f := [97]) (i := 1) (V := 0) (E := 8) (L' := [(sA, 1, 2), (sH, 2, 1)]) h4 ⟨by decide, by decide⟩ (by decide) (by decide +kernel)) (take1 at0 take0)) rfl ?_
  rintro _ _ ⟨c5, rfl, h5, rfl⟩
  refine app ?_
  refine v0 (S0.move rfl) rfl <| v0 (S0.extract rfl rfl) rfl <| v0 (S0.extract rfl rfl) rfl <| v0 (S0.assign rfl) rfl <| v0 (S0.assign rfl) rfl <| vE <| WP.seq <| WP.region <| v0 (S0.move rfl) rfl <| ?_  -- op t48 := call F17{(*rivulet/trie.Trie).Match}(t47, Value.string {'data': [97, 47, 98]})
  refine vc (S1.callF rfl (matchc h5 ⟨by decide, by decide⟩ (by decide) eM1) (take1 at0 take0)) rfl ?_
  rintro m1 _ ⟨q1, s1, rfl⟩
  refine app ?_
  refine v0 (S0.move rfl) rfl <| ?_  -- op t50 := call F17{(*rivulet/trie.Trie).Match}(t49, Value.string {'data': [97]})
  refine vc (S1.callF rfl (matchc h5 ⟨by decide, by decide⟩ (by decide) eM2) (take1 (atS at0) take0)) rfl ?_
  rintro m2 _ ⟨q2, s2, rfl⟩
  refine app ?_
  refine v0 (S0.assign rfl) rfl <| v0 (S0.assign rfl) rfl <| vE <| WP.seq <| WP.region <| v0 (S0.move rfl) rfl <| ?_  -- op t52 := call F12{(*rivulet/trie.Trie).Copy}(t51)
  refine vc (S1.callF rfl (copy_spec h5) (take1 (atS at0) take0)) rfl ?_
  rintro _ _ ⟨tb2, d0, rfl, g0, rfl⟩
  refine app ?_
  refine v0 (S0.assign rfl) rfl <| vE <| WP.seq <| WP.region <| v0 (S0.move rfl) rfl <| ?_  -- op t55 := call F30{(*rivulet/trie.Trie).Drop}(t54, Value.string {'data': [97, 47, 43]}, 1:i64)
  refine vc (S1.callF rfl (dropc (f := sA) (i := 1) (V := 1) (E := 0) (L' := [(sA, 1, 1), (sH, 2, 1)]) h5 ⟨by decide, by decide⟩ (by decide) (by decide +kernel)) (take1 (atS at0) take0)) rfl ?_
  rintro _ _ ⟨c6, rfl, h6, rfl⟩
  refine app ?_
  refine v0 (S0.move rfl) rfl <| v0 (S0.extract rfl rfl) rfl <| v0 (S0.extract rfl rfl) rfl <| v0 (S0.assign rfl) rfl <| v0 (S0.assign rfl) rfl <| vE <| WP.seq <| WP.region <| v0 (S0.move rfl) rfl <| ?_  -- op t60 := call F30{(*rivulet/trie.Trie).Drop}(t59, Value.string {'data': [97, 47, 43]}, 1:i64)
  refine vc (S1.callF rfl (dropc (f := sA) (i := 1) (V := 0) (E := 0) (L' := [(sH, 2, 1)]) h6 ⟨by decide, by decide⟩ (by decide) (by decide +kernel)) (take1 at0 take0)) rfl ?_
  rintro _ _ ⟨c7, rfl, h7, rfl⟩
  refine app ?_
  refine v0 (S0.move rfl) rfl <| v0 (S0.extract rfl rfl) rfl <| v0 (S0.extract rfl rfl) rfl <| v0 (S0.assign rfl) rfl <| v0 (S0.assign rfl) rfl <| vE <| WP.seq <| WP.seq <| WP.region <| v0 (S0.move rfl) rfl <| v0 (S0.nilP rfl rfl rfl rfl) rfl <| vE <| ?_  -- cond
  refine WP.condFh rfl (rfl) ?_
  refine WP.skip <| WP.seq <| WP.region <| v0 (S0.move rfl) rfl <| v0 (S0.cmp rfl rfl rfl) rfl <| v0 (S0.move rfl) rfl <| ?_  -- guard t67 (wants True) at t68 := move t3 [if #2=True]
  refine csTh (t := 67) rfl (rfl) ?_
  refine gT rfl <| v0 (S0.move rfl) rfl <| gT rfl <| v0 (S0.cmp rfl rfl rfl) rfl <| v0 (S0.pickT rfl rfl) rfl <| v0 (S0.move rfl) rfl <| ?_  -- guard t71 (wants True) at t72 := move t4 [if #6=True]
  refine csTh (t := 71) rfl (rfl) ?_
  refine gT rfl <| v0 (S0.move rfl) rfl <| gT rfl <| v0 (S0.cmp rfl rfl rfl) rfl <| v0 (S0.pickT rfl rfl) rfl <| v0 (S0.move rfl) rfl <| ?_  -- guard t75 (wants True) at t76 := move t5 [if #10=True]
  refine csTh (t := 75) rfl (rfl) ?_
  refine gT rfl <| v0 (S0.move rfl) rfl <| gT rfl <| v0 (S0.cmp rfl rfl rfl) rfl <| v0 (S0.pickT rfl rfl) rfl <| v0 (S0.move rfl) rfl <| ?_  -- guard t79 (wants True) at t80 := move t6 [if #14=True]
  refine csTh (t := 79) rfl (rfl) ?_
  refine gT rfl <| v0 (S0.move rfl) rfl <| gT rfl <| v0 (S0.cmp rfl rfl rfl) rfl <| v0 (S0.pickT rfl rfl) rfl <| v0 (S0.move rfl) rfl <| ?_  -- guard t83 (wants True) at t84 := move t7 [if #18=True]
  refine csTh (t := 83) rfl (rfl) ?_
  refine gT rfl <| v0 (S0.move rfl) rfl <| gT rfl <| v0 (S0.cmp rfl rfl rfl) rfl <| v0 (S0.pickT rfl rfl) rfl <| v0 (S0.move rfl) rfl <| ?_  -- guard t87 (wants True) at t88 := move t9 [if #22=True]
  refine csTh (t := 87) rfl (rfl) ?_
  refine gT rfl <| v0 (S0.move rfl) rfl <| gT rfl <| v0 (S0.cmp rfl rfl rfl) rfl <| v0 (S0.pickT rfl rfl) rfl <| v0 (S0.move rfl) rfl <| ?_  -- guard t91 (wants True) at t92 := move t11 [if #26=True]
  refine csTh (t := 91) rfl (rfl) ?_
  refine gT rfl <| v0 (S0.move rfl) rfl <| gT rfl <| v0 (S0.cmp rfl rfl rfl) rfl <| v0 (S0.pickT rfl rfl) rfl <| v0 (S0.move rfl) rfl <| ?_  -- guard t95 (wants True) at t96 := move t12 [if #30=True]
  refine csTh (t := 95) rfl (rfl) ?_
  refine gT rfl <| v0 (S0.move rfl) rfl <| gT rfl <| vnv (S1.buildSlice rfl (qs := [(0, _), (1, _)]) rfl rfl) rfl fun b97 => ?_  -- op t98 := call F19{rivulet/rivuletref04.Ints}(t96, t97) [if #30=True]
  refine gT rfl <| vcd (S1.callF rfl (ints_spec s1 (row_int (l := [1, 2]) rfl) (by decide)) (take1 (atS (atS (atS (atS at0)))) (take1 at0 take0))) rfl ?_
  refine v0 (S0.pickT rfl rfl) rfl <| v0 (S0.move rfl) rfl <| ?_  -- guard t100 (wants True) at t101 := move t13 [if #35=True]
  refine csTh (t := 100) rfl (rfl) ?_
  refine gT rfl <| v0 (S0.move rfl) rfl <| gT rfl <| vnv (S1.buildSlice rfl (qs := [(0, _)]) rfl rfl) rfl fun b102 => ?_  -- op t103 := call F19{rivulet/rivuletref04.Ints}(t101, t102) [if #35=True]
  refine gT rfl <| vcd (S1.callF rfl (ints_spec s2 (row_int (l := [2]) rfl) (by decide)) (take1 (atS (atS (atS (atS (atS at0))))) (take1 at0 take0))) rfl ?_
  refine v0 (S0.pickT rfl rfl) rfl <| v0 (S0.move rfl) rfl <| ?_  -- guard t105 (wants True) at t106 := move t15 [if #40=True]
  refine csTh (t := 105) rfl (rfl) ?_
  refine gT rfl <| v0 (S0.move rfl) rfl <| gT rfl <| v0 (S0.cmp rfl rfl rfl) rfl <| v0 (S0.pickT rfl rfl) rfl <| v0 (S0.move rfl) rfl <| ?_  -- guard t109 (wants True) at t110 := move t16 [if #44=True]
  refine csTh (t := 109) rfl (rfl) ?_
  refine gT rfl <| v0 (S0.move rfl) rfl <| gT rfl <| v0 (S0.cmp rfl rfl rfl) rfl <| v0 (S0.pickT rfl rfl) rfl <| v0 (S0.move rfl) rfl <| ?_  -- guard t113 (wants True) at t114 := move t17 [if #48=True]
  refine csTh (t := 113) rfl (rfl) ?_
  refine gT rfl <| v0 (S0.move rfl) rfl <| gT rfl <| v0 (S0.cmp rfl rfl rfl) rfl <| v0 (S0.pickT rfl rfl) rfl <| v0 (S0.move rfl) rfl <| ?_  -- guard t117 (wants True) at t118 := move t18 [if #52=True]
  refine csTh (t := 117) rfl (rfl) ?_
  refine gT rfl <| v0 (S0.move rfl) rfl <| gT rfl <| v0 (S0.cmp rfl rfl rfl) rfl <| v0 (S0.pickT rfl rfl) rfl <| v0 (S0.move rfl) rfl <| ?_  -- guard t121 (wants True) at t122 := move t1 [if #56=True]
  refine csTh (t := 121) rfl (rfl) ?_
  refine gT rfl <| v0 (S0.move rfl) rfl <| ?_  -- op t123 := call F18{(*rivulet/trie.Trie).All}(t122) [if #56=True]
  refine gT rfl <| vc (S1.callF rfl (all_spec h7 (m := 100) ⟨by decide, by decide⟩ (by decide)) (take1 (atS (atS (atS (atS at0)))) take0)) rfl ?_
  rintro ma _ ⟨ra, sa, rfl⟩
  refine app ?_
  rw [eA] at sa
  refine gT rfl <| vnv (S1.buildSlice rfl (qs := [(0, _)]) rfl rfl) rfl fun b124 => ?_  -- op t125 := call F21{rivulet/rivuletref02.Same}(t123, t124) [if #56=True]
  refine gT rfl <| vcd (S1.callF rfl (same_spec sa.rdS (row_str (l := [sH]) rfl) (by decide)) (take1 (atS at0) (take1 at0 take0))) rfl ?_
  refine v0 (S0.pickT rfl rfl) rfl <| v0 (S0.move rfl) rfl <| ?_  -- guard t127 (wants True) at t128 := move t14 [if #62=True]
  refine csTh (t := 127) rfl (rfl) ?_
  refine gT rfl <| v0 (S0.move rfl) rfl <| ?_  -- op t129 := call F25{(*rivulet/trie.Trie).Has}(t128, Value.string {'data': [97, 47, 43]}, 1:i64) [if #62=True]
  refine gT rfl <| vcd (S1.callF rfl (has_spec g0 (by decide) 1) (take1 (atS (atS (atS (atS (atS (atS (atS at0))))))) take0)) rfl ?_
  rw [eS]
  refine gT rfl <| v0 (S0.cmp rfl rfl rfl) rfl <| v0 (S0.pickT rfl rfl) rfl <| v0 (S0.move rfl) rfl <| ?_  -- guard t132 (wants True) at t133 := move t14 [if #67=True]
  refine csTh (t := 132) rfl (rfl) ?_
  refine gT rfl <| v0 (S0.move rfl) rfl <| ?_  -- op t134 := call F23{(*rivulet/trie.Trie).Of}(t133, 1:i64) [if #67=True]
  refine gT rfl <| vc (S1.callF rfl (of_spec g0 (m := 100) ⟨by decide, by decide⟩ (by decide) 1) (take1 at0 take0)) rfl ?_
  rintro mo _ ⟨ro, so, rfl⟩
  refine app ?_
  rw [eO] at so
  refine gT rfl <| vnv (S1.buildSlice rfl (qs := [(0, _)]) rfl rfl) rfl fun b135 => ?_  -- op t136 := call F21{rivulet/rivuletref02.Same}(t134, t135) [if #67=True]
  refine gT rfl <| vcd (S1.callF rfl (same_spec so.rdS (row_str (l := [sA]) rfl) (by decide)) (take1 (atS at0) (take1 at0 take0))) rfl ?_
  refine v0 (S0.pickT rfl rfl) rfl <| v0 (S0.move rfl) rfl <| ?_  -- guard t138 (wants True) at t139 := move t14 [if #73=True]
  refine csTh (t := 138) rfl (rfl) ?_
  refine gT rfl <| v0 (S0.move rfl) rfl <| ?_  -- op t140 := call F14{(*rivulet/trie.Trie).Leave}(t139, 1:i64) [if #73=True]
  refine gT rfl <| vc (S1.callF rfl (leave_spec g0 (m := 100) ⟨by decide, by decide⟩ (by decide) 1) (take1 (atS (atS at0)) take0)) rfl ?_
  rintro _ _ ⟨d1, rfl, g1, rfl⟩
  refine app ?_
  rw [eO]
  rw [eL] at g1
  refine gT rfl <| v0 (S0.cmp rfl rfl rfl) rfl <| v0 (S0.pickT rfl rfl) rfl <| v0 (S0.move rfl) rfl <| ?_  -- guard t143 (wants True) at t144 := move t14 [if #78=True]
  refine csTh (t := 143) rfl (rfl) ?_
  refine gT rfl <| v0 (S0.move rfl) rfl <| ?_  -- op t145 := call F17{(*rivulet/trie.Trie).Match}(t144, Value.string {'data': [97]}) [if #78=True]
  refine gT rfl <| vc (S1.callF rfl (matchc g1 ⟨by decide, by decide⟩ (by decide) eM3) (take1 at0 take0)) rfl ?_
  rintro _ _ ⟨q3, s3, rfl⟩
  refine app ?_
  obtain ⟨a3, c3', rfl, -, -⟩ := s3.intsE
  refine gT rfl <| v0 (S0.lenSl rfl) rfl <| gT rfl <| v0 (S0.cmp rfl rfl rfl) rfl <| v0 (S0.pickT rfl rfl) rfl <| v0 (S0.move rfl) rfl <| ?_  -- guard t149 (wants True) at t150 := move t1 [if #84=True]
  refine csTh (t := 149) rfl (rfl) ?_
  refine gT rfl <| v0 (S0.move rfl) rfl <| ?_  -- op t151 := call F17{(*rivulet/trie.Trie).Match}(t150, Value.string {'data': [43]}) [if #84=True]
  refine gT rfl <| vc (S1.callF rfl (matchc h7 ⟨by decide, by decide⟩ (by decide) eM4) (take1 (atS (atS (atS (atS (atS (atS at0)))))) take0)) rfl ?_
  rintro _ _ ⟨q4, s4, rfl⟩
  refine app ?_
  obtain ⟨a4, c4', rfl, -, -⟩ := s4.intsE
  refine gT rfl <| v0 (S0.lenSl rfl) rfl <| gT rfl <| v0 (S0.cmp rfl rfl rfl) rfl <| v0 (S0.pickT rfl rfl) rfl <| v0 (S0.assign rfl) rfl <| vE <| WP.ret <| ?_  -- ret
  refine Leaves.drop take0 ?_
  refine r1 rfl rfl ⟨?_, rfl⟩
  rfl
end Go.Proofs.YtmkgokjfkmbcoaaGreatDoor
/- L3 -/
namespace Go.Proofs.YtmkgokjfkmbcoaaGreatDoor
open Go

theorem ints_set (zs : List Int) (sp : List Value) {k : Nat} (hk : k < zs.length) (v : Int) : (ints zs ++ sp).set k (.int .i64 v) = ints (zs.set k v) ++ sp := by
  rw [List.set_append_left _ _ (by simp [ints]; exact hk)]; simp [ints]
theorem strs_set (zs : List Str) (sp : List Value) {k : Nat} (hk : k < zs.length) (v : Str) : (strs zs ++ sp).set k (sv v) = strs (zs.set k v) ++ sp := by
  rw [List.set_append_left _ _ (by simp [strs]; exact hk)]; simp [strs]
theorem ofK_le {L : Asks} {m : Nat} (hok : AsksOk L) (hb : AskB L m) (i : Int) : (ofK L i).length ≤ m := by
  have h1 := ofK_len hok i
  have h2 := List.length_filter_le (fun x => decide (x.2.1 = i)) L
  have h3 := hb.len
  omega
theorem allK_le {L : Asks} {m : Nat} (hb : AskB L m) : (allK L).length ≤ m := Nat.le_trans (allK_len L) hb.len
theorem idsK_le {L : Asks} {m : Nat} (hb : AskB L m) (s : Str) : (idsK L s).length ≤ m := by
  have h1 := idsN_len L s L.length
  have h2 := hb.len
  have h3 : idsK L s = idsN L s L.length := by simp [idsK, idsN]
  rw [h3]; omega
set_option maxRecDepth 100000 in
theorem trieDoes_walk (W : World) (lv : Value) (hl : ArgF W opK lv) : FN Tryz.prog 3 [lv] [whole W] (fun v h => v = .bool true ∧ h = [whole W]) := by
  obtain ⟨l0, hrl⟩ := argOps hl
  have hll := cutOs_len l0
  have hlx := cutOs_mem (l := l0)
  refine FN.intro 167 [(0, lv)] Tryz.func3 rfl (enters Tryz.func3 (by kernel_rfl) rfl) Tryz.ntmps3 rfl rfl ?_
  refine WP.seq <| WP.region <| v0 (S0.assign rfl) rfl <| vE <| WP.seq <| WP.region <| v0 (S0.move rfl) rfl <| ?_  -- op t17 := call F10{rivulet/rivuletlaw04.Cut}(t16)
  refine vc (S1.callF rfl (cut_spec hrl) (take1 at0 take0)) rfl ?_
  rintro _ _ ⟨row, hs, rfl⟩
  refine app ?_
  generalize cutOs l0 = M at hll hlx hs
  obtain ⟨a, cap, rfl, hcap, hrow⟩ := IsSl.elems (k := 3) enO_len hs
  refine v0 (S0.assign rfl) rfl <| vE <| WP.seq <| WP.region <| ?_  -- op t18 := call F11{rivulet/trie.New}()
  refine vc (S1.callF rfl (new_spec) take0) rfl ?_
  rintro _ _ ⟨tb0, c0, rfl, h0, rfl⟩
  refine app ?_
  refine v0 (S0.build rfl (qs := []) rfl) rfl <| vn (S1.box rfl rfl) rfl fun b20 => v0 (S0.assign rfl) rfl <| v0 (S0.assign rfl) rfl <| vE <| WP.seq <| WP.seq <| WP.region <| v0 (S0.assign rfl) rfl <| vE <| WP.block <| ?_  -- Code.loop
  refine WP.loop (fun st : Nat × Nat × Asks × List Blk × List Blk => st.1 ≤ M.length ∧ IsTr st.2.1 st.2.2.1 st.2.2.2.1 ∧ AsksOk st.2.2.1 ∧ AskB st.2.2.1 st.1 ∧ IsRT b20 st.2.2.1 st.2.2.2.2) (fun st : Nat × Nat × Asks × List Blk × List Blk => [(3, .slice a M.length cap), (4, .pointer (some ⟨st.2.1, 0, none⟩)), (5, .pointer (some ⟨b20, 0, none⟩)), (6, .int .i64 (st.1 : Int))]) (fun st : Nat × Nat × Asks × List Blk × List Blk => [st.2.2.2.1, st.2.2.2.2, row, whole W]) (fun st : Nat × Nat × Asks × List Blk × List Blk => M.length - st.1) ((0, tb0, [], c0, [(b20, cel [.slice none 0 0] 29)])) (⟨Nat.zero_le _, h0, AsksOk.nil, AskB.nil 0, _, [], IsSl.nil, rfl⟩) ⟨rfl, rfl, rfl, rfl, trivial⟩ ⟨_, (take1 (atS at0) (take1 at0 (take1 at0 (take1 at0 take0))))⟩ (fun st hinv => ?_) 
  obtain ⟨i, tb, L, c, rc⟩ := st
  obtain ⟨hi, hT, hok, hb, hR⟩ := hinv
  dsimp only at hi hT hok hb hR ⊢
  refine WP.seq <| WP.seq <| WP.region <| v0 (S0.move rfl) rfl <| v0 (S0.move rfl) rfl <| v0 (S0.lenSl rfl) rfl <| v0 (S0.cmp rfl rfl rfl) rfl <| vE <| ?_  -- cond
  first | refine WP.condP rfl (fun h1 => ?_) (fun h1 => ?_) | refine WP.condN rfl (fun h1 => ?_) (fun h1 => ?_) | refine WP.cond rfl (fun h1 => ?_) (fun h1 => ?_)
  · skip
    have hlt : i < M.length := by omega
    rcases hrow with ⟨e, -⟩ | ⟨b1, sp1, rfl, rfl, hsp1⟩
    · rw [e] at hlt; simp at hlt
    have hx : M[i]? = some M[i] := by simp [hlt]
    have hxl := hlx _ (List.getElem_mem hlt)
    generalize M[i] = x at hx hxl
    obtain ⟨x0, x1, x2, x3⟩ := x
    dsimp only at hxl
    have g0 := flat_get enO_len sp1 M i 0 _ hx (by decide)
    have g1 := flat_get enO_len sp1 M i 1 _ hx (by decide)
    have g2 := flat_get enO_len sp1 M i 2 _ hx (by decide)
    have g3 := flat_get enO_len sp1 M i 3 _ hx (by decide)
    have gA : ((M.flatMap enO ++ sp1).drop (i * 4)).take 4 = enO (x0, x1, x2, x3) := flat_take enO_len sp1 M i _ hx
    refine WP.skip <| WP.seq <| WP.block <| WP.seq <| WP.seq <| WP.region <| v0 (S0.move rfl) rfl <| v0 (S0.nilP rfl rfl rfl rfl) rfl <| vE <| ?_  -- cond
    refine WP.condFh rfl (rfl) ?_
    refine WP.skip <| WP.seq <| WP.seq <| WP.region <| v0 (S0.move rfl) rfl <| v0 (S0.move rfl) rfl <| ?_  -- op t31 := indexAddr 22 t29 t30
    refine v0 (S0.indexN (k := 4) rfl rfl hlt) rfl <| ?_
    refine v0 (S0.fieldAddr rfl) rfl <| ?_  -- limit
    refine v0 (S0.load (v := .int .i64 x0) rfl g0) rfl <| ?_
    refine v0 (S0.cmp rfl rfl rfl) rfl <| vE <| ?_  -- cut
    refine WP.cutT (fun s : Nat × List Blk => IsTr s.1 L s.2) (fun s : Nat × List Blk => [(3, .slice (some ⟨b1, 0, none⟩) M.length cap), (4, .pointer (some ⟨s.1, 0, none⟩)), (5, .pointer (some ⟨b20, 0, none⟩)), (6, .int .i64 (i : Int))]) (fun s : Nat × List Blk => [s.2, rc, [(b1, .cells ⟨M.flatMap enO ++ sp1⟩ 31 (0, 0))], whole W]) ?_ (fun s hinv => ?_)
    · -- (nothing to walk: cond)
      first | refine WP.condP rfl (fun h2 => ?_) (fun h2 => ?_) | refine WP.condN rfl (fun h2 => ?_) (fun h2 => ?_) | refine WP.cond rfl (fun h2 => ?_) (fun h2 => ?_)
      · skip
        refine WP.seq <| WP.region <| v0 (S0.move rfl) rfl <| v0 (S0.assign rfl) rfl <| vE <| WP.seq <| WP.region <| v0 (S0.move rfl) rfl <| ?_  -- op t37 := call F12{(*rivulet/trie.Trie).Copy}(t36)
        refine vc (S1.callF rfl (copy_spec hT) (take1 at0 take0)) rfl ?_
        rintro _ _ ⟨tb2, c2, rfl, hT2, rfl⟩
        refine app ?_
        refine v0 (S0.assign rfl) rfl <| vE <| WP.seq <| WP.region <| v0 (S0.move rfl) rfl <| ?_  -- op t39 := call F13{(*rivulet/trie.Trie).Add}(t38, Value.string {'data': [120, 47, 121]}, 99:i64)
        refine vc (S1.callF rfl (add_spec hT hb (by omega) (f := [120, 47, 121]) (by decide) 99) (take1 (atS at0) take0)) rfl ?_
        rintro _ _ ⟨c3, rfl, hT3, rfl⟩
        refine app ?_
        refine vE <| WP.seq <| WP.region <| v0 (S0.move rfl) rfl <| v0 (S0.move rfl) rfl <| v0 (S0.move rfl) rfl <| ?_  -- op t43 := indexAddr 22 t41 t42
        refine v0 (S0.indexN (k := 4) rfl rfl hlt) rfl <| ?_
        refine v0 (S0.fieldAddr rfl) rfl <| ?_  -- limit
        refine v0 (S0.load (v := .int .i64 x2) rfl g2) rfl <| ?_
        refine vc (S1.callF rfl (leave_spec hT3 (hb.addR _ _) (by omega) x2) (take1 at0 take0)) rfl ?_
        rintro _ _ ⟨c4, rfl, hT4, rfl⟩
        refine app ?_
        refine vE <| WP.seq <| WP.region <| v0 (S0.move rfl) rfl <| v0 (S0.nilP rfl rfl rfl rfl) rfl <| vE <| ?_  -- cond
        refine WP.condFh rfl (rfl) ?_
        refine WP.skip <| ?_  -- cutend
        exact ⟨(tb2, c2), (by first | exact hT2 | (dsimp only; exact hT2)), ⟨⟨rfl, rfl, rfl, rfl, trivial⟩, rfl, rfl⟩, ⟨_, (take1 (atS at0) (take1 (atS at0) (take1 (atS at0) (take1 (atS at0) take0))))⟩⟩
      · skip
        refine WP.skip <| ?_  -- cutend
        exact ⟨(tb, c), (by first | exact hT | (dsimp only; exact hT)), ⟨⟨rfl, rfl, rfl, rfl, trivial⟩, rfl, rfl⟩, ⟨_, (take1 at0 (take1 at0 (take1 at0 (take1 at0 take0))))⟩⟩
    · skip
      obtain ⟨tb, c⟩ := s
      clear hT
      have hT := hinv
      dsimp only at hT ⊢
      refine WP.seq <| WP.region <| v0 (S0.move rfl) rfl <| v0 (S0.move rfl) rfl <| v0 (S0.move rfl) rfl <| ?_  -- op t53 := indexAddr 22 t51 t52
      refine v0 (S0.indexN (k := 4) rfl rfl hlt) rfl <| ?_
      refine v0 (S0.loadA rfl gA rfl) rfl <| ?_
      -- (nothing to walk: op t55 := call F15{rivulet/rivuletlaw04.play}(t50, t54))
      refine vc (S1.callF rfl (play_spec (x := (x0, x1, x2, x3)) hT hb (by omega) (by simp; omega)) (take1 at0 take0)) rfl ?_
      rintro _ _ ⟨c', rfl, hT', rfl⟩
      refine app ?_
      refine v0 (S0.move rfl) rfl <| v0 (S0.extract rfl rfl) rfl <| v0 (S0.extract rfl rfl) rfl <| v0 (S0.assign rfl) rfl <| v0 (S0.assign rfl) rfl <| vE <| WP.seq <| WP.region <| v0 (S0.move rfl) rfl <| v0 (S0.move rfl) rfl <| v0 (S0.move rfl) rfl <| ?_  -- op t62 := indexAddr 22 t60 t61
      refine v0 (S0.indexN (k := 4) rfl rfl hlt) rfl <| ?_
      refine v0 (S0.loadA rfl gA rfl) rfl <| ?_
      -- (nothing to walk: op t64 := call F16{rivulet/rivuletlaw04.same}(t59, t63))
      refine vc (S1.callF rfl (rplay_spec (x := (x0, x1, x2, x3)) hR hok hb (by omega) (by simp; omega)) (take1 (atS at0) take0)) rfl ?_
      rintro _ _ ⟨rc', rfl, hR', rfl⟩
      refine app ?_
      have hok' := hok.play (x0, x1, x2, x3)
      have hb' := hb.play (x0, x1, x2, x3)
      generalize playR L (x0, x1, x2, x3) = L' at hT' hR' hok' hb'
      generalize playV L (x0, x1, x2, x3) = V
      generalize playE L (x0, x1, x2, x3) = E
      refine v0 (S0.move rfl) rfl <| v0 (S0.extract rfl rfl) rfl <| v0 (S0.extract rfl rfl) rfl <| v0 (S0.assign rfl) rfl <| v0 (S0.assign rfl) rfl <| vE <| WP.seq <| WP.region <| v0 (S0.move rfl) rfl <| v0 (S0.move rfl) rfl <| v0 (S0.move rfl) rfl <| ?_  -- op t70 := indexAddr 22 t68 t69
      refine v0 (S0.indexN (k := 4) rfl rfl hlt) rfl <| ?_
      refine v0 (S0.fieldAddr rfl) rfl <| ?_  -- limit
      refine v0 (S0.load (v := sv x3) rfl g3) rfl <| ?_
      refine vc (S1.callF rfl (match_spec0 hT' hb' (by omega) (s := x3) (by omega)) (take1 (atS at0) take0)) rfl ?_
      rintro mv _ ⟨mrow, hm, rfl⟩
      refine app ?_
      refine v0 (S0.move rfl) rfl <| ?_  -- op t75 := call F18{(*rivulet/trie.Trie).All}(t74)
      refine vc (S1.callF rfl (all_spec hT' hb' (by omega)) (take1 (atS at0) take0)) rfl ?_
      rintro av _ ⟨arow, ha, rfl⟩
      refine app ?_
      skip
      refine v0 (S0.assign rfl) rfl <| v0 (S0.assign rfl) rfl <| vE <| WP.seq <| WP.seq <| WP.drawP [(0, none), (1, none), (2, none), (3, none), (4, none), (5, none), (6, none), (7, none), (8, none), (9, none), (10, none), (11, none), (12, none), (13, none), (14, none), (15, none), (16, none), (17, none), (18, none), (19, none), (20, none), (21, none), (22, none), (23, none), (24, none), (25, none), (26, none), (27, none), (28, none), (29, none), (30, none), (31, none), (32, none), (33, none), (35, none), (36, none), (37, none), (38, none), (39, none), (40, none), (34, none), (41, none), (42, none), (43, none), (44, none), (45, none), (46, none), (47, none), (48, none), (49, none), (50, none), (51, none), (52, none), (53, none), (54, none), (55, none), (56, none), (58, none), (59, none), (60, none), (61, none), (62, none), (63, none), (64, none), (65, none), (66, none), (67, none), (68, none), (57, none), (69, none), (70, none), (71, none)] mixed (by kernel_rfl) (by kernel_rfl) (by kernel_rfl) (take1 (atS (atS (atS (atS at0)))) take0) <| w0 rfl rfl rfl (S0.move rfl) rfl <| w0 rfl rfl rfl (S0.move rfl) rfl <| w0 rfl rfl rfl (S0.cmp rfl rfl rfl) rfl <| w0 rfl rfl rfl (S0.move rfl) rfl <| ?_  -- guard t79 (wants False) at t80 := move t9 [if #3=False]
      refine wcsFh (t := 79) rfl ((by simp)) ?_
      refine w0 rfl rfl rfl (S0.move rfl) rfl <| w0 rfl rfl rfl (S0.move rfl) rfl <| w0 rfl rfl rfl (S0.cmp rfl rfl rfl) rfl <| w0 rfl rfl rfl (S0.pickF rfl rfl) rfl <| w0 rfl rfl rfl (S0.move rfl) rfl <| ?_  -- guard t84 (wants False) at t85 := move t12 [if #8=False]
      refine wcsFh (t := 84) rfl ((by simp)) ?_
      refine w0 rfl rfl rfl (S0.move rfl) rfl <| w0 rfl rfl rfl (S0.move rfl) rfl <| w0 rfl rfl rfl (S0.move rfl) rfl <| w0 rfl rfl rfl (S0.move rfl) rfl <| ?_  -- op t89 := indexAddr 22 t87 t88 [if #8=False]
      refine w0 rfl rfl rfl (S0.indexN (k := 4) rfl rfl hlt) rfl <| ?_
      refine w0 rfl rfl rfl (S0.fieldAddr rfl) rfl <| ?_  -- limit
      refine w0 rfl rfl rfl (S0.load (v := sv x3) rfl g3) rfl <| ?_
      refine wc rfl rfl rfl rfl (S1.callF rfl (rmatch4_spec hR' hok' hb' (by omega) (s := x3) (by omega)) (take1 (atS (atS (atS at0))) take0)) rfl ?_
      rintro mv2 _ ⟨m2row, hm2, rfl⟩
      refine wapp ?_
      have hil := idsK_le hb' x3
      refine wcd rfl rfl rfl rfl (S1.callF rfl (ints_spec hm hm2 (by omega)) (take1 (atS (atS (atS (atS at0)))) (take1 at0 take0))) rfl ?_
      refine w0 rfl rfl rfl (S0.not rfl) rfl <| w0 rfl rfl rfl (S0.pickF rfl rfl) rfl <| w0 rfl rfl rfl (S0.move rfl) rfl <| ?_  -- guard t96 (wants False) at t97 := move t13 [if #20=False]
      refine wcsFh (t := 96) rfl ((by simp)) ?_
      refine w0 rfl rfl rfl (S0.move rfl) rfl <| w0 rfl rfl rfl (S0.move rfl) rfl <| ?_  -- op t99 := call F22{(*rivulet/rivuletref04.Trie).All}(t98) [if #20=False]
      refine wc rfl rfl rfl rfl (S1.callF rfl (rall_spec hR' hok' hb' (by omega)) (take1 (atS (atS at0)) take0)) rfl ?_
      rintro av2 _ ⟨a2row, ha2, rfl⟩
      refine wapp ?_
      have hal := allK_le hb'
      refine wcd rfl rfl rfl rfl (S1.callF rfl (same_spec ha.rdS ha2.rdS (by omega)) (take1 (atS (atS (atS (atS at0)))) (take1 at0 take0))) rfl ?_
      refine w0 rfl rfl rfl (S0.not rfl) rfl <| w0 rfl rfl rfl (S0.pickF rfl rfl) rfl <| w0 rfl rfl rfl (S0.move rfl) rfl <| ?_  -- guard t103 (wants False) at t104 := move t4 [if #27=False]
      refine wcsFh (t := 103) rfl ((by simp)) ?_
      refine w0 rfl rfl rfl (S0.move rfl) rfl <| w0 rfl rfl rfl (S0.move rfl) rfl <| w0 rfl rfl rfl (S0.move rfl) rfl <| ?_  -- op t107 := indexAddr 22 t105 t106 [if #27=False]
      refine w0 rfl rfl rfl (S0.indexN (k := 4) rfl rfl hlt) rfl <| ?_
      refine w0 rfl rfl rfl (S0.fieldAddr rfl) rfl <| ?_  -- limit
      refine w0 rfl rfl rfl (S0.load (v := .int .i64 x2) rfl g2) rfl <| ?_
      refine w0 rfl rfl rfl (S0.move rfl) rfl <| w0 rfl rfl rfl (S0.move rfl) rfl <| w0 rfl rfl rfl (S0.move rfl) rfl <| ?_  -- op t114 := indexAddr 22 t112 t113 [if #27=False]
      refine w0 rfl rfl rfl (S0.indexN (k := 4) rfl rfl hlt) rfl <| ?_
      refine w0 rfl rfl rfl (S0.fieldAddr rfl) rfl <| ?_  -- limit
      refine w0 rfl rfl rfl (S0.load (v := .int .i64 x2) rfl g2) rfl <| ?_
      refine wc rfl rfl rfl rfl (S1.callF rfl (of_spec hT' hb' (by omega) x2) (take1 (atS (atS (atS (atS (atS at0))))) take0)) rfl ?_
      rintro ov _ ⟨orow, ho, rfl⟩
      refine wapp ?_
      refine wc rfl rfl rfl rfl (S1.callF rfl (rof_spec hR' hok' hb' (by omega) x2) (take1 (atS (atS (atS (atS at0)))) take0)) rfl ?_
      rintro ov2 _ ⟨o2row, ho2, rfl⟩
      refine wapp ?_
      have hol := ofK_le hok' hb' x2
      refine wcd rfl rfl rfl rfl (S1.callF rfl (same_spec ho.rdS ho2.rdS (by omega)) (take1 (atS (atS at0)) (take1 at0 take0))) rfl ?_
      refine w0 rfl rfl rfl (S0.not rfl) rfl <| w0 rfl rfl rfl (S0.pickF rfl rfl) rfl <| w0 rfl rfl rfl (S0.move rfl) rfl <| ?_  -- guard t121 (wants False) at t122 := move t4 [if #45=False]
      refine wcsFh (t := 121) rfl ((by simp)) ?_
      refine w0 rfl rfl rfl (S0.move rfl) rfl <| w0 rfl rfl rfl (S0.move rfl) rfl <| w0 rfl rfl rfl (S0.move rfl) rfl <| ?_  -- op t125 := indexAddr 22 t123 t124 [if #45=False]
      refine w0 rfl rfl rfl (S0.indexN (k := 4) rfl rfl hlt) rfl <| ?_
      refine w0 rfl rfl rfl (S0.fieldAddr rfl) rfl <| ?_  -- limit
      refine w0 rfl rfl rfl (S0.load (v := sv x1) rfl g1) rfl <| ?_
      refine w0 rfl rfl rfl (S0.move rfl) rfl <| w0 rfl rfl rfl (S0.move rfl) rfl <| ?_  -- op t130 := indexAddr 22 t128 t129 [if #45=False]
      refine w0 rfl rfl rfl (S0.indexN (k := 4) rfl rfl hlt) rfl <| ?_
      refine w0 rfl rfl rfl (S0.fieldAddr rfl) rfl <| ?_  -- limit
      refine w0 rfl rfl rfl (S0.load (v := .int .i64 x2) rfl g2) rfl <| ?_
      refine w0 rfl rfl rfl (S0.move rfl) rfl <| w0 rfl rfl rfl (S0.move rfl) rfl <| w0 rfl rfl rfl (S0.move rfl) rfl <| ?_  -- op t137 := indexAddr 22 t135 t136 [if #45=False]
      refine w0 rfl rfl rfl (S0.indexN (k := 4) rfl rfl hlt) rfl <| ?_
      refine w0 rfl rfl rfl (S0.fieldAddr rfl) rfl <| ?_  -- limit
      refine w0 rfl rfl rfl (S0.load (v := sv x1) rfl g1) rfl <| ?_
      refine w0 rfl rfl rfl (S0.move rfl) rfl <| w0 rfl rfl rfl (S0.move rfl) rfl <| ?_  -- op t142 := indexAddr 22 t140 t141 [if #45=False]
      refine w0 rfl rfl rfl (S0.indexN (k := 4) rfl rfl hlt) rfl <| ?_
      refine w0 rfl rfl rfl (S0.fieldAddr rfl) rfl <| ?_  -- limit
      refine w0 rfl rfl rfl (S0.load (v := .int .i64 x2) rfl g2) rfl <| ?_
      refine wcd rfl rfl rfl rfl (S1.callF rfl (has_spec hT' (show x1.length ≤ 1000 by omega) x2) (take1 (atS (atS (atS at0))) take0)) rfl ?_
      refine wcd rfl rfl rfl rfl (S1.callF rfl (rhas_spec hR' (by have := hb'.len; omega) x1 x2) (take1 (atS (atS (atS at0))) take0)) rfl ?_
      refine w0 rfl rfl rfl (S0.cmp rfl rfl rfl) rfl <| w0 rfl rfl rfl (S0.pickF rfl rfl) rfl <| wE <| ?_  -- cond
      refine WP.condFh rfl ((by simp)) ?_
      obtain ⟨ma, mc, rfl, hmc, -⟩ := hm.intsE
      obtain ⟨aa, ac, rfl, hac, -⟩ := ha.strsE
      refine WP.skip <| WP.seq <| WP.seq <| WP.region <| v0 (S0.assign rfl) rfl <| vE <| WP.block <| ?_  -- Code.loop
      refine WP.loop (fun st : Nat × List Int × List Blk => st.1 ≤ (idsK L' x3).length ∧ st.2.1.length = (idsK L' x3).length ∧ IsSl 3 1 (.slice ma (idsK L' x3).length mc) (ints st.2.1) st.2.2) (fun st : Nat × List Int × List Blk => [(3, .slice (some ⟨b1, 0, none⟩) M.length cap), (4, .pointer (some ⟨tb, 0, none⟩)), (5, .pointer (some ⟨b20, 0, none⟩)), (6, .int .i64 (i : Int)), (12, .slice ma (idsK L' x3).length mc), (13, .slice aa (allK L').length ac), (14, .int .i64 (st.1 : Int))]) (fun st : Nat × List Int × List Blk => [st.2.2, arow, c', rc', [(b1, .cells ⟨M.flatMap enO ++ sp1⟩ 31 (0, 0))], whole W]) (fun st : Nat × List Int × List Blk => (idsK L' x3).length - st.1) ((0, idsK L' x3, mrow)) (⟨Nat.zero_le _, rfl, hm⟩) ⟨rfl, rfl, rfl, rfl, rfl, rfl, rfl, trivial⟩ ⟨_, (take1 (atS (atS (atS (atS (atS (atS (atS at0))))))) (take1 (atS (atS (atS (atS (atS at0))))) (take1 (atS (atS at0)) (take1 (atS at0) (take1 at0 (take1 (atS (atS (atS (atS at0)))) take0))))))⟩ (fun st hinv => ?_) 
      obtain ⟨k, zs, mrow1⟩ := st
      obtain ⟨hk, hzl, hz⟩ := hinv
      dsimp only at hk hzl hz ⊢
      refine WP.seq <| WP.seq <| WP.region <| v0 (S0.move rfl) rfl <| v0 (S0.move rfl) rfl <| v0 (S0.lenSl rfl) rfl <| v0 (S0.cmp rfl rfl rfl) rfl <| vE <| ?_  -- cond
      first | refine WP.condP rfl (fun h3 => ?_) (fun h3 => ?_) | refine WP.condN rfl (fun h3 => ?_) (fun h3 => ?_) | refine WP.cond rfl (fun h3 => ?_) (fun h3 => ?_)
      · skip
        have hlk : k < (idsK L' x3).length := by omega
        obtain ⟨za, zc, ez, hzc, hzr⟩ := hz.intsE
        simp only [Value.slice.injEq] at ez
        obtain ⟨rfl, -, rfl⟩ := ez
        rcases hzr with ⟨e, -⟩ | ⟨b2, sp2, rfl, rfl, hsp2⟩
        · rw [e] at hzl; simp at hzl; omega
        have hst := ints_set zs sp2 (k := k) (by omega) 77
        have hz2 : IsSl 3 1 (.slice (some ⟨b2, 0, none⟩) (idsK L' x3).length mc) (ints (zs.set k 77)) [(b2, .cells ⟨ints (zs.set k 77) ++ sp2⟩ 3 (0, 0))] := IsSl.row (by simp [ints, hzl]) (by simpa [ints] using hsp2) hmc
        refine WP.skip <| WP.seq <| WP.block <| WP.region <| v0 (S0.move rfl) rfl <| v0 (S0.move rfl) rfl <| ?_  -- op t156 := indexAddr 38 t154 t155
        refine v0 (S0.index1 rfl rfl hlk) rfl <| ?_
        refine vs (S1.storeI rfl rfl rfl hst (by simp [ints]; omega)) <| ?_
        refine vE <| WP.region <| v0 (S0.move rfl) rfl <| v0 (S0.ari rfl rfl rfl (wrap_i64 (by omega))) rfl <| v0 (S0.assign rfl) rfl <| vE <| ?_  -- roundend
        exact ⟨(k + 1, zs.set k 77, [(b2, .cells ⟨ints (zs.set k 77) ++ sp2⟩ 3 (0, 0))]), (by first | exact ⟨hlk, by simpa using hzl, hz2⟩ | (dsimp only; exact ⟨hlk, by simpa using hzl, hz2⟩)), (show (idsK L' x3).length - (k + 1) < (idsK L' x3).length - k by omega), ⟨⟨rfl, rfl, rfl, rfl, rfl, rfl, rfl, trivial⟩, rfl, rfl⟩, ⟨_, (take1 at0 (take1 at0 (take1 at0 (take1 at0 (take1 at0 (take1 at0 take0))))))⟩⟩
      · skip
        refine WP.exit <| WP.seq <| WP.region <| v0 (S0.assign rfl) rfl <| vE <| WP.block <| ?_  -- Code.loop
        refine WP.loop (fun st : Nat × List Str × List Blk => st.1 ≤ (allK L').length ∧ st.2.1.length = (allK L').length ∧ IsSl 9 1 (.slice aa (allK L').length ac) (strs st.2.1) st.2.2) (fun st : Nat × List Str × List Blk => [(3, .slice (some ⟨b1, 0, none⟩) M.length cap), (4, .pointer (some ⟨tb, 0, none⟩)), (5, .pointer (some ⟨b20, 0, none⟩)), (6, .int .i64 (i : Int)), (13, .slice aa (allK L').length ac), (15, .int .i64 (st.1 : Int))]) (fun st : Nat × List Str × List Blk => [st.2.2, c', rc', [(b1, .cells ⟨M.flatMap enO ++ sp1⟩ 31 (0, 0))], whole W]) (fun st : Nat × List Str × List Blk => (allK L').length - st.1) ((0, allK L', arow)) (⟨Nat.zero_le _, rfl, ha⟩) ⟨rfl, rfl, rfl, rfl, rfl, rfl, trivial⟩ ⟨_, (take1 (atS at0) (take1 (atS at0) (take1 (atS at0) (take1 (atS at0) (take1 (atS at0) take0)))))⟩ (fun st hinv => ?_) 
        obtain ⟨j, ys, arow1⟩ := st
        obtain ⟨hj, hyl, hy⟩ := hinv
        dsimp only at hj hyl hy ⊢
        refine WP.seq <| WP.seq <| WP.region <| v0 (S0.move rfl) rfl <| v0 (S0.move rfl) rfl <| v0 (S0.lenSl rfl) rfl <| v0 (S0.cmp rfl rfl rfl) rfl <| vE <| ?_  -- cond
        first | refine WP.condP rfl (fun h4 => ?_) (fun h4 => ?_) | refine WP.condN rfl (fun h4 => ?_) (fun h4 => ?_) | refine WP.cond rfl (fun h4 => ?_) (fun h4 => ?_)
        · skip
          have hlj : j < (allK L').length := by omega
          obtain ⟨ya, yc, ey, hyc, hyr⟩ := hy.strsE
          simp only [Value.slice.injEq] at ey
          obtain ⟨rfl, -, rfl⟩ := ey
          rcases hyr with ⟨e, -⟩ | ⟨b2, sp2, rfl, rfl, hsp2⟩
          · rw [e] at hyl; simp at hyl; omega
          have hst := strs_set ys sp2 (k := j) (by omega) [115, 112, 111, 105, 108, 116]
          have hy2 : IsSl 9 1 (.slice (some ⟨b2, 0, none⟩) (allK L').length ac) (strs (ys.set j [115, 112, 111, 105, 108, 116])) [(b2, .cells ⟨strs (ys.set j [115, 112, 111, 105, 108, 116]) ++ sp2⟩ 9 (0, 0))] := IsSl.row (by simp [strs, hyl]) (by simpa [strs] using hsp2) hac
          refine WP.skip <| WP.seq <| WP.block <| WP.region <| v0 (S0.move rfl) rfl <| v0 (S0.move rfl) rfl <| ?_  -- op t165 := indexAddr 40 t163 t164
          refine v0 (S0.index1 rfl rfl hlj) rfl <| ?_
          refine vs (S1.storeI rfl rfl rfl hst (by simp [strs]; omega)) <| ?_
          refine vE <| WP.region <| v0 (S0.move rfl) rfl <| v0 (S0.ari rfl rfl rfl (wrap_i64 (by omega))) rfl <| v0 (S0.assign rfl) rfl <| vE <| ?_  -- roundend
          exact ⟨(j + 1, ys.set j [115, 112, 111, 105, 108, 116], [(b2, .cells ⟨strs (ys.set j [115, 112, 111, 105, 108, 116]) ++ sp2⟩ 9 (0, 0))]), (by first | exact ⟨hlj, by simpa using hyl, hy2⟩ | (dsimp only; exact ⟨hlj, by simpa using hyl, hy2⟩)), (show (allK L').length - (j + 1) < (allK L').length - j by omega), ⟨⟨rfl, rfl, rfl, rfl, rfl, rfl, trivial⟩, rfl, rfl⟩, ⟨_, (take1 at0 (take1 at0 (take1 at0 (take1 at0 (take1 at0 take0)))))⟩⟩
        · skip
          refine WP.exit <| WP.region <| v0 (S0.move rfl) rfl <| v0 (S0.ari rfl rfl rfl (wrap_i64 (by omega))) rfl <| v0 (S0.assign rfl) rfl <| vE <| ?_  -- roundend
          exact ⟨(i + 1, tb, L', c', rc'), (by first | exact ⟨hlt, hT', hok', hb', hR'⟩ | (dsimp only; exact ⟨hlt, hT', hok', hb', hR'⟩)), (show M.length - (i + 1) < M.length - i by omega), ⟨⟨rfl, rfl, rfl, rfl, trivial⟩, rfl, rfl⟩, ⟨_, (take1 (atS at0) (take1 (atS at0) (take1 (atS at0) (take1 (atS at0) take0))))⟩⟩
  · skip
    refine WP.exit <| WP.seq <| WP.region <| ?_  -- op t166 := call F27{rivulet/rivuletlaw04.fixed}()
    refine vcd (S1.callF rfl (fixed_spec) take0) rfl ?_
    refine v0 (S0.assign rfl) rfl <| vE <| WP.ret <| ?_  -- ret
    refine Leaves.drop (take1 (atS (atS (atS at0))) take0) ?_
    refine r1 rfl rfl ?_
    exact ⟨rfl, rfl⟩
end Go.Proofs.YtmkgokjfkmbcoaaGreatDoor
/- T12 -/
/-
  What follows of asks: who leaves, whose asks there are.
-/
namespace Go.Proofs.YtmkgokjfkmbcoaaGreatDoor
open Go

theorem mem_leave {L : Asks} {i : Int} {x : Str × Int × Int} : x ∈ leaveK L i ↔ x ∈ L ∧ x.2.1 ≠ i := by simp [leaveK]
theorem ids_leave (L : Asks) (i : Int) (s : Str) : idsK (leaveK L i) s = (idsK L s).filter fun x => !decide (x = i) := by
  refine rising_ext (idsK_rising _ _) (List.Pairwise.sublist List.filter_sublist (idsK_rising _ _)) fun x => ?_
  rw [List.mem_filter, mem_idsK, mem_idsK]
  unfold asksFor
  constructor
  · rintro ⟨y, hy, rfl, hm⟩
    obtain ⟨h1, h2⟩ := mem_leave.1 hy
    exact ⟨⟨y, h1, rfl, hm⟩, by simpa using h2⟩
  · rintro ⟨⟨y, h1, rfl, hm⟩, h2⟩
    exact ⟨y, mem_leave.2 ⟨h1, by simpa using h2⟩, rfl, hm⟩
theorem of_leave (L : Asks) (i : Int) : ofK (leaveK L i) i = [] := by
  rw [List.eq_nil_iff_forall_not_mem]
  intro f hf
  obtain ⟨n, hm⟩ := mem_ofK.1 hf
  exact (mem_leave.1 hm).2 rfl
theorem all_leave (L : Asks) (i : Int) : (allK (leaveK L i)).length ≤ (allK L).length :=
  (allK_sorted _).nodup.length_le_of_subset fun f hf => by
    obtain ⟨j, n, hm⟩ := mem_allK.1 hf
    exact mem_allK.2 ⟨j, n, (mem_leave.1 hm).1⟩
/-- each ask is one's of the calls -/
def IdsIn (L : Asks) (ids : List Int) : Prop := ∀ x ∈ L, x.2.1 ∈ ids
theorem IdsIn.nil : IdsIn [] [] := by simp [IdsIn]
theorem IdsIn.mono {L : Asks} {a b : List Int} (h : IdsIn L a) (hs : ∀ i ∈ a, i ∈ b) : IdsIn L b := fun x hx => hs _ (h x hx)
theorem IdsIn.addK {L : Asks} {ids : List Int} (h : IdsIn L ids) (f : Str) (i : Int) : IdsIn (addK L f i) (ids ++ [i]) := by
  intro x hx
  unfold Go.Proofs.YtmkgokjfkmbcoaaGreatDoor.addK at hx
  split at hx
  · rcases List.mem_append.1 hx with hx | hx
    · exact List.mem_append.2 (.inl (h x hx))
    · simp at hx; subst hx; simp
  · obtain ⟨y, hy, rfl⟩ := List.mem_map.1 hx
    split
    · simp
    · exact List.mem_append.2 (.inl (h y hy))
theorem IdsIn.addR {L : Asks} {ids : List Int} (h : IdsIn L ids) (f : Str) (i : Int) : IdsIn (addR L f i) (ids ++ [i]) := by
  unfold Go.Proofs.YtmkgokjfkmbcoaaGreatDoor.addR
  split
  · exact h.addK f i
  · exact h.mono fun i hi => List.mem_append.2 (.inl hi)
theorem IdsIn.lessK {L : Asks} {ids : List Int} (h : IdsIn L ids) (f : Str) (i : Int) : IdsIn (lessK L f i) ids := by
  intro x hx
  unfold Go.Proofs.YtmkgokjfkmbcoaaGreatDoor.lessK at hx
  split at hx
  · exact h x (List.mem_filter.1 hx).1
  · obtain ⟨y, hy, rfl⟩ := List.mem_map.1 hx
    split
    · rename_i e; rw [← e.2]; exact h y hy
    · exact h y hy
theorem IdsIn.dropR {L : Asks} {ids : List Int} (h : IdsIn L ids) (f : Str) (i : Int) : IdsIn (dropR L f i) ids := by
  unfold Go.Proofs.YtmkgokjfkmbcoaaGreatDoor.dropR
  split
  · exact h.lessK f i
  · exact h
theorem has_in {L : Asks} (hok : AsksOk L) {f : Str} (h : f ∈ allK L) : ∃ i, (∀ ids, IdsIn L ids → i ∈ ids) ∧ 0 < hasK L f i := by
  obtain ⟨i, n, hm⟩ := mem_allK.1 h
  have h2 := hok.pos _ hm
  have h3 := has_mem hok hm
  simp only at h2
  exact ⟨i, fun ids hi => hi _ hm, by omega⟩
/-- no asks at all -/
theorem none_of_has {L : Asks} (hok : AsksOk L) (h : ∀ f i, hasK L f i = 0) : L = [] := by
  cases L with
  | nil => rfl
  | cons x L =>
    obtain ⟨f, i, n⟩ := x
    have h1 := h f i
    have h2 := hok.pos _ (List.mem_cons_self (a := (f, i, n)) (l := L))
    simp only [hasK, and_self, if_true] at h1
    simp only at h2
    omega
theorem same_all {L M : Asks} (h : ∀ f i, hasK L f i = hasK M f i) (hL : AsksOk L) (hM : AsksOk M) : allK L = allK M ∧ ∀ s, idsK L s = idsK M s := by
  have key : ∀ (A B : Asks), AsksOk A → (∀ f i, hasK A f i = hasK B f i) → ∀ f i n, (f, i, n) ∈ A → (f, i, n) ∈ B := fun A B hA hh f i n hm => by
    have h1 := has_mem hA hm
    have h2 := hA.pos _ hm
    simp only at h2
    rw [hh] at h1
    have := has_ne (L := B) (f := f) (i := i) (by omega)
    rwa [h1] at this
  refine ⟨sortedS_ext (allK_sorted L) (allK_sorted M) fun f => ?_, fun s => rising_ext (idsK_rising L s) (idsK_rising M s) fun i => ?_⟩
  · rw [mem_allK, mem_allK]
    exact ⟨fun ⟨i, n, hm⟩ => ⟨i, n, key L M hL h f i n hm⟩, fun ⟨i, n, hm⟩ => ⟨i, n, key M L hM (fun f i => (h f i).symm) f i n hm⟩⟩
  · rw [mem_idsK, mem_idsK]
    unfold asksFor
    exact ⟨fun ⟨x, hx, e1, e2⟩ => ⟨x, key L M hL h x.1 x.2.1 x.2.2 hx, e1, e2⟩, fun ⟨x, hx, e1, e2⟩ => ⟨x, key M L hM (fun f i => (h f i).symm) x.1 x.2.1 x.2.2 hx, e1, e2⟩⟩
/-- how often calls ask -/
def cntO (l : List (Int × Str × Int × Str)) (f : Str) (i : Int) : Nat := (l.filter fun x => okA x.2.1 x.2.2.1 && decide (x.2.1 = f ∧ x.2.2.1 = i)).length
theorem cntO_app (l m : List (Int × Str × Int × Str)) (f : Str) (i : Int) : cntO (l ++ m) f i = cntO l f i + cntO m f i := by simp [cntO]
theorem cntO_one (x : Int × Str × Int × Str) (f : Str) (i : Int) : cntO [x] f i = if okA x.2.1 x.2.2.1 = true ∧ x.2.1 = f ∧ x.2.2.1 = i then 1 else 0 := by
  unfold cntO
  by_cases h : okA x.2.1 x.2.2.1 = true ∧ x.2.1 = f ∧ x.2.2.1 = i
  · rw [if_pos h, List.filter_cons_of_pos (by simp only [Bool.and_eq_true, decide_eq_true_eq]; exact h)]; rfl
  · rw [if_neg h, List.filter_cons_of_neg (by
      intro e
      simp only [Bool.and_eq_true, decide_eq_true_eq] at e
      exact h ⟨e.1, e.2.1, e.2.2⟩)]
    rfl
theorem cntO_perm {l m : List (Int × Str × Int × Str)} (h : l.Perm m) (f : Str) (i : Int) : cntO l f i = cntO m f i := (h.filter _).length_eq
theorem has_addR {L : Asks} (hok : AsksOk L) (x : Int × Str × Int × Str) (f : Str) (i : Int) : hasK (addR L x.2.1 x.2.2.1) f i = hasK L f i + (cntO [x] f i : Int) := by
  rw [cntO_one]
  unfold addR
  by_cases h : okA x.2.1 x.2.2.1 = true
  · rw [if_pos h, has_add hok]
    by_cases e : f = x.2.1 ∧ i = x.2.2.1
    · rw [if_pos e, if_pos ⟨h, e.1.symm, e.2.symm⟩, e.1, e.2]; rfl
    · rw [if_neg e, if_neg (fun h2 => e ⟨h2.2.1.symm, h2.2.2.symm⟩)]; simp
  · rw [if_neg h, if_neg (fun h2 => h h2.1)]; simp
theorem has_dropR {L : Asks} (hok : AsksOk L) (x : Int × Str × Int × Str) (hx : okA x.2.1 x.2.2.1 = true) (h0 : hasK L x.2.1 x.2.2.1 ≠ 0) (f : Str) (i : Int) : hasK (dropR L x.2.1 x.2.2.1) f i = hasK L f i - (cntO [x] f i : Int) := by
  rw [cntO_one]
  unfold dropR
  have hp := has_nonneg hok x.2.1 x.2.2.1
  rw [if_pos ⟨hx, h0⟩, has_less hok _ _ (by omega)]
  by_cases e : f = x.2.1 ∧ i = x.2.2.1
  · rw [if_pos e, if_pos ⟨hx, e.1.symm, e.2.symm⟩, e.1, e.2]; rfl
  · rw [if_neg e, if_neg (fun h2 => e ⟨h2.2.1.symm, h2.2.2.symm⟩)]; simp
end Go.Proofs.YtmkgokjfkmbcoaaGreatDoor
/- L4 -/
namespace Go.Proofs.YtmkgokjfkmbcoaaGreatDoor
open Go

theorem IdsIn.play {L : Asks} {ids : List Int} (h : IdsIn L ids) (x : OpT) : IdsIn (playR L x) (ids ++ [x.2.2.1]) := by
  have hm := h.mono (b := ids ++ [x.2.2.1]) fun i hi => List.mem_append.2 (.inl hi)
  unfold playR
  split
  · exact h.addR _ _
  · split
    · exact hm.dropR _ _
    · split
      · exact fun y hy => hm y (mem_leave.1 hy).1
      · exact hm
set_option maxRecDepth 100000 in
theorem trieLeaves_walk (W : World) (lv : Value) (hl : ArgF W opK lv) (id : Int) (s0 : Str) (hs0 : s0.length ≤ maxLen) : FN Tryz.prog 6 [lv, .int .i64 id, sv s0] [whole W] (fun v h => v = .bool true ∧ h = [whole W]) := by
  obtain ⟨l0, hrl⟩ := argOps hl
  have hll := cutOs_len l0
  have hlx := cutOs_mem (l := l0)
  refine FN.intro 104 [(0, lv), (1, .int .i64 id), (2, sv s0)] Tryz.func6 rfl (enters Tryz.func6 (by kernel_rfl) rfl) Tryz.ntmps6 rfl rfl ?_
  refine WP.seq <| WP.region <| v0 (S0.assign rfl) rfl <| vE <| WP.seq <| WP.region <| v0 (S0.move rfl) rfl <| ?_  -- op t17 := call F10{rivulet/rivuletlaw04.Cut}(t16)
  refine vc (S1.callF rfl (cut_spec hrl) (take1 at0 take0)) rfl ?_
  rintro _ _ ⟨row, hs, rfl⟩
  refine app ?_
  generalize cutOs l0 = M at hll hlx hs
  obtain ⟨a, cap, rfl, hcap, hrow⟩ := IsSl.elems (k := 3) enO_len hs
  -- (nothing to walk: op t18 := call F11{rivulet/trie.New}())
  refine vc (S1.callF rfl (new_spec) take0) rfl ?_
  rintro _ _ ⟨tb, c0, rfl, h0, rfl⟩
  refine app ?_
  refine v0 (S0.assign rfl) rfl <| v0 (S0.assign rfl) rfl <| vE <| WP.seq <| WP.region <| v0 (S0.move rfl) rfl <| v0 (S0.move rfl) rfl <| v0 (S0.lenSt rfl) rfl <| v0 (S0.min2 rfl rfl rfl) rfl <| ?_  -- op t23 := slice 9 t19 none t22 none
  rw [min150]
  refine v0 (S0.sliceSt (i := 0) (j := min s0.length 150) rfl rfl rfl ⟨Nat.zero_le _, by omega⟩) rfl <| ?_
  rw [take_min150]
  have hsl : (s0.take 150).length ≤ 1000 := by rw [List.length_take]; omega
  generalize s0.take 150 = s at hsl
  refine v0 (S0.assign rfl) rfl <| vE <| WP.seq <| WP.seq <| WP.region <| v0 (S0.move rfl) rfl <| v0 (S0.nilP rfl rfl rfl rfl) rfl <| vE <| ?_  -- cond
  refine WP.condFh rfl (rfl) ?_
  refine WP.skip <| WP.seq <| WP.seq <| WP.region <| v0 (S0.assign rfl) rfl <| vE <| WP.block <| ?_  -- Code.loop
  refine WP.loop (fun st : Nat × Asks × List Blk => st.1 ≤ M.length ∧ IsTr tb st.2.1 st.2.2 ∧ AsksOk st.2.1 ∧ AskB st.2.1 st.1 ∧ IdsIn st.2.1 ((M.take st.1).map (·.2.2.1))) (fun st : Nat × Asks × List Blk => [(7, .slice a M.length cap), (8, .pointer (some ⟨tb, 0, none⟩)), (9, .int .i64 (st.1 : Int)), (2, sv s), (1, .int .i64 id)]) (fun st : Nat × Asks × List Blk => [st.2.2, row, whole W]) (fun st : Nat × Asks × List Blk => M.length - st.1) ((0, [], c0)) (⟨Nat.zero_le _, h0, AsksOk.nil, AskB.nil 0, by simp [IdsIn]⟩) ⟨rfl, rfl, rfl, rfl, rfl, trivial⟩ ⟨_, (take1 at0 (take1 at0 (take1 at0 take0)))⟩ (fun st hinv => ?_) 
  obtain ⟨i, L, c⟩ := st
  obtain ⟨hi, hT, hok, hb, hids⟩ := hinv
  dsimp only at hi hT hok hb hids ⊢
  refine WP.seq <| WP.seq <| WP.region <| v0 (S0.move rfl) rfl <| v0 (S0.move rfl) rfl <| v0 (S0.lenSl rfl) rfl <| v0 (S0.cmp rfl rfl rfl) rfl <| vE <| ?_  -- cond
  first | refine WP.condP rfl (fun h1 => ?_) (fun h1 => ?_) | refine WP.condN rfl (fun h1 => ?_) (fun h1 => ?_) | refine WP.cond rfl (fun h1 => ?_) (fun h1 => ?_)
  · skip
    have hlt : i < M.length := by omega
    rcases hrow with ⟨e, -⟩ | ⟨b1, sp1, rfl, rfl, hsp1⟩
    · rw [e] at hlt; simp at hlt
    have hx : M[i]? = some M[i] := by simp [hlt]
    have hxl := hlx _ (List.getElem_mem hlt)
    generalize M[i] = x at hx hxl
    have gA : ((M.flatMap enO ++ sp1).drop (i * 4)).take 4 = enO x := flat_take enO_len sp1 M i _ hx
    have hids' := hids.play x
    rw [show (M.take i).map (·.2.2.1) ++ [x.2.2.1] = (M.take (i + 1)).map (·.2.2.1) by rw [take_one hx]; simp] at hids'
    refine WP.skip <| WP.seq <| WP.block <| WP.region <| v0 (S0.move rfl) rfl <| v0 (S0.move rfl) rfl <| v0 (S0.move rfl) rfl <| ?_  -- op t35 := indexAddr 22 t33 t34
    refine v0 (S0.indexN (k := 4) rfl rfl hlt) rfl <| ?_
    refine v0 (S0.loadA rfl gA rfl) rfl <| ?_
    refine vc (S1.callF rfl (play_spec hT hb (by omega) (by omega)) (take1 at0 take0)) rfl ?_
    rintro _ _ ⟨c', rfl, hT', rfl⟩
    refine app ?_
    refine vE <| WP.region <| v0 (S0.move rfl) rfl <| v0 (S0.ari rfl rfl rfl (wrap_i64 (by omega))) rfl <| v0 (S0.assign rfl) rfl <| vE <| ?_  -- roundend
    exact ⟨(i + 1, playR L x, c'), (by first | exact ⟨hlt, hT', hok.play x, hb.play x, hids'⟩ | (dsimp only; exact ⟨hlt, hT', hok.play x, hb.play x, hids'⟩)), (show M.length - (i + 1) < M.length - i by omega), ⟨⟨rfl, rfl, rfl, rfl, rfl, trivial⟩, rfl, rfl⟩, ⟨_, (take1 at0 (take1 at0 (take1 at0 take0)))⟩⟩
  · skip
    have ei : i = M.length := by omega
    rw [ei, List.take_length] at hids
    have hbm : AskB L 60 := hb.mono (by omega)
    clear hb h0 ei hi
    have hT2 := hT
    refine WP.exit <| WP.seq <| WP.region <| v0 (S0.move rfl) rfl <| v0 (S0.move rfl) rfl <| ?_  -- op t40 := call F17{(*rivulet/trie.Trie).Match}(t38, t39)
    refine vc (S1.callF rfl (match_spec0 hT hbm (by decide) (s := s) hsl) (take1 at0 take0)) rfl ?_
    rintro mv _ ⟨mrow, hm, rfl⟩
    refine app ?_
    refine v0 (S0.move rfl) rfl <| v0 (S0.move rfl) rfl <| ?_  -- op t43 := call F23{(*rivulet/trie.Trie).Of}(t41, t42)
    refine vc (S1.callF rfl (of_spec hT hbm (by decide) id) (take1 (atS at0) take0)) rfl ?_
    rintro ov _ ⟨orow, ho, rfl⟩
    refine app ?_
    refine v0 (S0.move rfl) rfl <| ?_  -- op t45 := call F18{(*rivulet/trie.Trie).All}(t44)
    refine vc (S1.callF rfl (all_spec hT hbm (by decide)) (take1 (atS at0) take0)) rfl ?_
    rintro av _ ⟨arow, ha, rfl⟩
    refine app ?_
    refine v0 (S0.assign rfl) rfl <| v0 (S0.assign rfl) rfl <| v0 (S0.assign rfl) rfl <| vE <| WP.seq <| WP.region <| v0 (S0.move rfl) rfl <| v0 (S0.move rfl) rfl <| ?_  -- op t48 := call F14{(*rivulet/trie.Trie).Leave}(t46, t47)
    refine vc (S1.callF rfl (leave_spec hT hbm (by decide) id) (take1 (atS at0) take0)) rfl ?_
    rintro _ _ ⟨c2, rfl, hT3, rfl⟩
    refine app ?_
    have hb2 := hbm.leave id
    obtain ⟨ma, mc, rfl, hmc, hmr⟩ := hm.intsE
    obtain ⟨oa, oc, rfl, hoc, -⟩ := ho.strsE
    obtain ⟨aa, ac, rfl, hac, -⟩ := ha.strsE
    have hil := idsK_le hbm s
    refine v0 (S0.assign rfl) rfl <| vE <| WP.seq <| WP.region <| vnv (S1.buildSlice rfl (qs := []) rfl rfl) rfl fun b49 => v0 (S0.assign rfl) rfl <| vE <| WP.seq <| WP.seq <| WP.region <| v0 (S0.assign rfl) rfl <| vE <| WP.block <| ?_  -- Code.loop
    refine WP.loop (fun st : Nat × Value × List Blk => st.1 ≤ (idsK L s).length ∧ IsSl 3 1 st.2.1 (ints (((idsK L s).take st.1).filter fun x => !decide (x = id))) st.2.2) (fun st : Nat × Value × List Blk => [(1, .int .i64 id), (2, sv s), (8, .pointer (some ⟨tb, 0, none⟩)), (10, .slice ma (idsK L s).length mc), (11, .slice oa (ofK L id).length oc), (12, .slice aa (allK L).length ac), (13, .int .i64 ((ofK L id).length : Int)), (14, st.2.1), (15, .int .i64 (st.1 : Int))]) (fun st : Nat × Value × List Blk => [st.2.2, mrow, c2, whole W]) (fun st : Nat × Value × List Blk => (idsK L s).length - st.1) ((0, _, [(b49, .cells ⟨[]⟩ 3 (0, 0))])) (⟨Nat.zero_le _, IsSl.row (n := 0) (c := 0) (l := []) (sp := []) rfl rfl (Nat.le_refl _)⟩) ⟨rfl, rfl, rfl, rfl, rfl, rfl, rfl, rfl, rfl, trivial⟩ ⟨_, (take1 at0 (take1 (atS (atS (atS at0))) (take1 at0 (take1 (atS (atS (atS at0))) take0))))⟩ (fun st hinv => ?_) 
    obtain ⟨k, rv, rrow⟩ := st
    obtain ⟨hk, hr⟩ := hinv
    dsimp only at hk hr ⊢
    have hfl := List.length_filter_le (fun x => !decide (x = id)) ((idsK L s).take k)
    refine WP.seq <| WP.seq <| WP.region <| v0 (S0.move rfl) rfl <| v0 (S0.move rfl) rfl <| v0 (S0.lenSl rfl) rfl <| v0 (S0.cmp rfl rfl rfl) rfl <| vE <| ?_  -- cond
    first | refine WP.condP rfl (fun h2 => ?_) (fun h2 => ?_) | refine WP.condN rfl (fun h2 => ?_) (fun h2 => ?_) | refine WP.cond rfl (fun h2 => ?_) (fun h2 => ?_)
    · skip
      have hlk : k < (idsK L s).length := by omega
      rcases hmr with ⟨e, -⟩ | ⟨b2, sp2, rfl, rfl, hsp2⟩
      · rw [e] at hlk; simp at hlk
      have hx : (idsK L s)[k]? = some (idsK L s)[k] := by simp [hlk]
      generalize (idsK L s)[k] = x at hx
      have hsucc : ((idsK L s).take (k + 1)).filter (fun x => !decide (x = id)) = if x = id then ((idsK L s).take k).filter (fun x => !decide (x = id)) else ((idsK L s).take k).filter (fun x => !decide (x = id)) ++ [x] := by
        rw [take_one hx, List.filter_append]
        by_cases h : x = id <;> simp [h]
      refine WP.skip <| WP.seq <| WP.block <| WP.seq <| WP.region <| v0 (S0.move rfl) rfl <| v0 (S0.move rfl) rfl <| ?_  -- op t58 := indexAddr 38 t56 t57
      refine v0 (S0.index1 rfl rfl hlk) rfl <| ?_
      refine v0 (S0.load rfl (ints_get hx)) rfl <| ?_
      refine v0 (S0.move rfl) rfl <| v0 (S0.cmp rfl rfl rfl) rfl <| vE <| ?_  -- cond
      first | refine WP.condP rfl (fun h3 => ?_) (fun h3 => ?_) | refine WP.condN rfl (fun h3 => ?_) (fun h3 => ?_) | refine WP.cond rfl (fun h3 => ?_) (fun h3 => ?_)
      · skip
        rw [if_neg h3] at hsucc
        refine WP.region <| v0 (S0.move rfl) rfl <| v0 (S0.move rfl) rfl <| v0 (S0.move rfl) rfl <| ?_  -- op t65 := indexAddr 38 t63 t64
        refine v0 (S0.index1 rfl rfl hlk) rfl <| ?_
        refine v0 (S0.load rfl (ints_get hx)) rfl <| ?_
        refine vnv (S1.buildSlice rfl (qs := [(0, _)]) rfl rfl) rfl fun b67 => ?_  -- op t68 := append(t62, t67) :[38, 38]
        refine ve (S1.appendL rfl hr rfl rfl (atS at0) rfl rfl (by rw [ints_len]; simp at hfl ⊢; omega)) rfl ?_
        rintro v2 _ ⟨row2, hs2, rfl⟩
        refine v0 (S0.assign rfl) rfl <| vE <| WP.region <| v0 (S0.move rfl) rfl <| v0 (S0.ari rfl rfl rfl (wrap_i64 (by omega))) rfl <| v0 (S0.assign rfl) rfl <| vE <| ?_  -- roundend
        exact ⟨(k + 1, v2, row2), (by first | exact ⟨hlk, by rw [hsucc, ints_app]; exact hs2⟩ | (dsimp only; exact ⟨hlk, by rw [hsucc, ints_app]; exact hs2⟩)), (show (idsK L s).length - (k + 1) < (idsK L s).length - k by omega), ⟨⟨rfl, rfl, rfl, rfl, rfl, rfl, rfl, rfl, rfl, trivial⟩, rfl, rfl⟩, ⟨_, (take1 at0 (take1 (atS at0) (take1 (atS at0) (take1 (atS at0) take0))))⟩⟩
      · skip
        rw [if_pos (by simpa using h3)] at hsucc
        refine WP.skip <| WP.region <| v0 (S0.move rfl) rfl <| v0 (S0.ari rfl rfl rfl (wrap_i64 (by omega))) rfl <| v0 (S0.assign rfl) rfl <| vE <| ?_  -- roundend
        exact ⟨(k + 1, rv, rrow), (by first | exact ⟨hlk, by rw [hsucc]; exact hr⟩ | (dsimp only; exact ⟨hlk, by rw [hsucc]; exact hr⟩)), (show (idsK L s).length - (k + 1) < (idsK L s).length - k by omega), ⟨⟨rfl, rfl, rfl, rfl, rfl, rfl, rfl, rfl, rfl, trivial⟩, rfl, rfl⟩, ⟨_, (take1 at0 (take1 at0 (take1 at0 (take1 at0 take0))))⟩⟩
    · skip
      have ek : k = (idsK L s).length := by omega
      rw [ek, List.take_length, ← ids_leave] at hr
      have hof0 := of_leave L id
      have hal := all_leave L id
      have hok2 := hok.leave id
      refine WP.exit <| WP.seq <| WP.region <| v0 (S0.move rfl) rfl <| v0 (S0.move rfl) rfl <| v0 (S0.lenSl rfl) rfl <| v0 (S0.cmp rfl rfl rfl) rfl <| v0 (S0.move rfl) rfl <| ?_  -- guard t73 (wants True) at t74 := move t8 [if #4=True]
      refine csTh (t := 73) rfl ((by simp)) ?_
      refine gT rfl <| v0 (S0.move rfl) rfl <| gT rfl <| v0 (S0.move rfl) rfl <| ?_  -- op t76 := call F17{(*rivulet/trie.Trie).Match}(t74, t75) [if #4=True]
      refine gT rfl <| vc (S1.callF rfl (match_spec0 hT3 hb2 (by decide) (s := s) hsl) (take1 (atS (atS at0)) take0)) rfl ?_
      rintro mv2 _ ⟨mrow2, hm2, rfl⟩
      refine app ?_
      have hil2 := idsK_le hb2 s
      refine gT rfl <| v0 (S0.move rfl) rfl <| ?_  -- op t78 := call F19{rivulet/rivuletref04.Ints}(t76, t77) [if #4=True]
      refine gT rfl <| vcd (S1.callF rfl (ints_spec hm2 hr (by omega)) (take1 at0 (take1 (atS at0) take0))) rfl ?_
      refine v0 (S0.pickT rfl rfl) rfl <| v0 (S0.move rfl) rfl <| ?_  -- guard t80 (wants True) at t81 := move t8 [if #11=True]
      refine csTh (t := 80) rfl ((by simp)) ?_
      refine gT rfl <| v0 (S0.move rfl) rfl <| gT rfl <| v0 (S0.move rfl) rfl <| ?_  -- op t83 := call F23{(*rivulet/trie.Trie).Of}(t81, t82) [if #11=True]
      refine gT rfl <| vc (S1.callF rfl (of_spec hT3 hb2 (by decide) id) (take1 (atS (atS at0)) take0)) rfl ?_
      rintro _ _ ⟨orow2, ho2, rfl⟩
      refine app ?_
      rw [hof0] at ho2
      obtain ⟨oa2, oc2, rfl, -, -⟩ := ho2.strsE
      refine gT rfl <| v0 (S0.lenSl rfl) rfl <| gT rfl <| v0 (S0.cmp rfl rfl rfl) rfl <| v0 (S0.pickT rfl rfl) rfl <| v0 (S0.move rfl) rfl <| ?_  -- guard t87 (wants True) at t88 := move t8 [if #18=True]
      refine csTh (t := 87) rfl (rfl) ?_
      refine gT rfl <| v0 (S0.move rfl) rfl <| ?_  -- op t89 := call F18{(*rivulet/trie.Trie).All}(t88) [if #18=True]
      refine gT rfl <| vc (S1.callF rfl (all_spec hT3 hb2 (by decide)) (take1 (atS at0) take0)) rfl ?_
      rintro _ _ ⟨arow2, ha2, rfl⟩
      refine app ?_
      obtain ⟨aa2, ac2, rfl, -, -⟩ := ha2.strsE
      refine gT rfl <| v0 (S0.lenSl rfl) rfl <| gT rfl <| v0 (S0.move rfl) rfl <| gT rfl <| v0 (S0.lenSl rfl) rfl <| gT rfl <| v0 (S0.cmp rfl rfl rfl) rfl <| v0 (S0.pickT rfl rfl) rfl <| v0 (S0.move rfl) rfl <| ?_  -- guard t95 (wants True) at t96 := move t8 [if #26=True]
      refine csTh (t := 95) rfl ((decide_eq_true (by omega))) ?_
      refine gT rfl <| v0 (S0.move rfl) rfl <| gT rfl <| v0 (S0.move rfl) rfl <| ?_  -- op t98 := call F14{(*rivulet/trie.Trie).Leave}(t96, t97) [if #26=True]
      refine gT rfl <| vc (S1.callF rfl (leave_spec hT3 hb2 (by decide) id) (take1 (atS at0) take0)) rfl ?_
      rintro _ _ ⟨c3, rfl, hT4, rfl⟩
      refine app ?_
      rw [hof0]
      refine gT rfl <| v0 (S0.cmp rfl rfl rfl) rfl <| v0 (S0.pickT rfl rfl) rfl <| v0 (S0.move rfl) rfl <| ?_  -- guard t101 (wants True) at t102 := call F27{rivulet/rivuletlaw04.fixed}() [if #32=True]
      refine csTh (t := 101) rfl (rfl) ?_
      -- (nothing to walk: op t102 := call F27{rivulet/rivuletlaw04.fixed}() [if #32=True])
      refine gT rfl <| vcd (S1.callF rfl (fixed_spec) take0) rfl ?_
      refine v0 (S0.pickT rfl rfl) rfl <| v0 (S0.assign rfl) rfl <| vE <| WP.ret <| ?_  -- ret
      refine Leaves.drop (take1 (atS (atS (atS (atS (atS (atS at0)))))) take0) ?_
      refine r1 rfl rfl ?_
      exact ⟨rfl, rfl⟩
end Go.Proofs.YtmkgokjfkmbcoaaGreatDoor
/- L5 -/
namespace Go.Proofs.YtmkgokjfkmbcoaaGreatDoor
open Go

set_option maxRecDepth 100000 in
theorem trieCopies_walk (W : World) (lv : Value) (hl : ArgF W opK lv) (s0 : Str) (hs0 : s0.length ≤ maxLen) : FN Tryz.prog 7 [lv, sv s0] [whole W] (fun v h => v = .bool true ∧ h = [whole W]) := by
  obtain ⟨l0, hrl⟩ := argOps hl
  have hll := cutOs_len l0
  have hlx := cutOs_mem (l := l0)
  refine FN.intro 89 [(0, lv), (1, sv s0)] Tryz.func7 rfl (enters Tryz.func7 (by kernel_rfl) rfl) Tryz.ntmps7 rfl rfl ?_
  refine WP.seq <| WP.region <| v0 (S0.assign rfl) rfl <| vE <| WP.seq <| WP.region <| v0 (S0.move rfl) rfl <| ?_  -- op t14 := call F10{rivulet/rivuletlaw04.Cut}(t13)
  refine vc (S1.callF rfl (cut_spec hrl) (take1 at0 take0)) rfl ?_
  rintro _ _ ⟨row, hs, rfl⟩
  refine app ?_
  generalize cutOs l0 = M at hll hlx hs
  obtain ⟨a, cap, rfl, hcap, hrow⟩ := IsSl.elems (k := 3) enO_len hs
  -- (nothing to walk: op t15 := call F11{rivulet/trie.New}())
  refine vc (S1.callF rfl (new_spec) take0) rfl ?_
  rintro _ _ ⟨tb, c0, rfl, h0, rfl⟩
  refine app ?_
  refine v0 (S0.assign rfl) rfl <| v0 (S0.assign rfl) rfl <| vE <| WP.seq <| WP.region <| v0 (S0.move rfl) rfl <| v0 (S0.move rfl) rfl <| v0 (S0.lenSt rfl) rfl <| v0 (S0.min2 rfl rfl rfl) rfl <| ?_  -- op t20 := slice 9 t16 none t19 none
  rw [min150]
  refine v0 (S0.sliceSt (i := 0) (j := min s0.length 150) rfl rfl rfl ⟨Nat.zero_le _, by omega⟩) rfl <| ?_
  rw [take_min150]
  have hsl : (s0.take 150).length ≤ 1000 := by rw [List.length_take]; omega
  generalize s0.take 150 = s at hsl
  refine v0 (S0.assign rfl) rfl <| vE <| WP.seq <| WP.seq <| WP.region <| v0 (S0.move rfl) rfl <| v0 (S0.nilP rfl rfl rfl rfl) rfl <| vE <| ?_  -- cond
  refine WP.condFh rfl (rfl) ?_
  refine WP.skip <| WP.seq <| WP.seq <| WP.region <| v0 (S0.assign rfl) rfl <| vE <| WP.block <| ?_  -- Code.loop
  refine WP.loop (fun st : Nat × Asks × List Blk => st.1 ≤ M.length ∧ IsTr tb st.2.1 st.2.2 ∧ AsksOk st.2.1 ∧ AskB st.2.1 st.1 ∧ IdsIn st.2.1 ((M.take st.1).map (·.2.2.1))) (fun st : Nat × Asks × List Blk => [(5, .slice a M.length cap), (6, .pointer (some ⟨tb, 0, none⟩)), (7, .int .i64 (st.1 : Int)), (1, sv s)]) (fun st : Nat × Asks × List Blk => [st.2.2, row, whole W]) (fun st : Nat × Asks × List Blk => M.length - st.1) ((0, [], c0)) (⟨Nat.zero_le _, h0, AsksOk.nil, AskB.nil 0, by simp [IdsIn]⟩) ⟨rfl, rfl, rfl, rfl, trivial⟩ ⟨_, (take1 at0 (take1 at0 (take1 at0 take0)))⟩ (fun st hinv => ?_) 
  obtain ⟨i, L, c⟩ := st
  obtain ⟨hi, hT, hok, hb, hids⟩ := hinv
  dsimp only at hi hT hok hb hids ⊢
  refine WP.seq <| WP.seq <| WP.region <| v0 (S0.move rfl) rfl <| v0 (S0.move rfl) rfl <| v0 (S0.lenSl rfl) rfl <| v0 (S0.cmp rfl rfl rfl) rfl <| vE <| ?_  -- cond
  first | refine WP.condP rfl (fun h1 => ?_) (fun h1 => ?_) | refine WP.condN rfl (fun h1 => ?_) (fun h1 => ?_) | refine WP.cond rfl (fun h1 => ?_) (fun h1 => ?_)
  · skip
    have hlt : i < M.length := by omega
    rcases hrow with ⟨e, -⟩ | ⟨b1, sp1, rfl, rfl, hsp1⟩
    · rw [e] at hlt; simp at hlt
    have hx : M[i]? = some M[i] := by simp [hlt]
    have hxl := hlx _ (List.getElem_mem hlt)
    generalize M[i] = x at hx hxl
    have gA : ((M.flatMap enO ++ sp1).drop (i * 4)).take 4 = enO x := flat_take enO_len sp1 M i _ hx
    have hids' := hids.play x
    rw [show (M.take i).map (·.2.2.1) ++ [x.2.2.1] = (M.take (i + 1)).map (·.2.2.1) by rw [take_one hx]; simp] at hids'
    refine WP.skip <| WP.seq <| WP.block <| WP.region <| v0 (S0.move rfl) rfl <| v0 (S0.move rfl) rfl <| v0 (S0.move rfl) rfl <| ?_  -- op t32 := indexAddr 22 t30 t31
    refine v0 (S0.indexN (k := 4) rfl rfl hlt) rfl <| ?_
    refine v0 (S0.loadA rfl gA rfl) rfl <| ?_
    refine vc (S1.callF rfl (play_spec hT hb (by omega) (by omega)) (take1 at0 take0)) rfl ?_
    rintro _ _ ⟨c', rfl, hT', rfl⟩
    refine app ?_
    refine vE <| WP.region <| v0 (S0.move rfl) rfl <| v0 (S0.ari rfl rfl rfl (wrap_i64 (by omega))) rfl <| v0 (S0.assign rfl) rfl <| vE <| ?_  -- roundend
    exact ⟨(i + 1, playR L x, c'), (by first | exact ⟨hlt, hT', hok.play x, hb.play x, hids'⟩ | (dsimp only; exact ⟨hlt, hT', hok.play x, hb.play x, hids'⟩)), (show M.length - (i + 1) < M.length - i by omega), ⟨⟨rfl, rfl, rfl, rfl, trivial⟩, rfl, rfl⟩, ⟨_, (take1 at0 (take1 at0 (take1 at0 take0)))⟩⟩
  · skip
    have ei : i = M.length := by omega
    rw [ei, List.take_length] at hids
    have hbm : AskB L 60 := hb.mono (by omega)
    clear hb h0 ei hi
    refine WP.exit <| WP.seq <| WP.region <| v0 (S0.move rfl) rfl <| ?_  -- op t36 := call F12{(*rivulet/trie.Trie).Copy}(t35)
    refine vc (S1.callF rfl (copy_spec hT) (take1 at0 take0)) rfl ?_
    rintro _ _ ⟨tb2, d0, rfl, hD, rfl⟩
    refine app ?_
    refine v0 (S0.assign rfl) rfl <| vE <| WP.seq <| WP.seq <| WP.region <| v0 (S0.move rfl) rfl <| v0 (S0.nilP rfl rfl rfl rfl) rfl <| vE <| ?_  -- cond
    refine WP.condFh rfl (rfl) ?_
    refine WP.skip <| WP.seq <| WP.region <| v0 (S0.move rfl) rfl <| v0 (S0.move rfl) rfl <| ?_  -- op t41 := call F17{(*rivulet/trie.Trie).Match}(t39, t40)
    refine vc (S1.callF rfl (match_spec0 hT hbm (by decide) (s := s) hsl) (take1 (atS at0) take0)) rfl ?_
    rintro mv _ ⟨mrow, hm, rfl⟩
    refine app ?_
    refine v0 (S0.move rfl) rfl <| ?_  -- op t43 := call F18{(*rivulet/trie.Trie).All}(t42)
    refine vc (S1.callF rfl (all_spec hT hbm (by decide)) (take1 (atS at0) take0)) rfl ?_
    rintro av _ ⟨arow, ha, rfl⟩
    refine app ?_
    have hil := idsK_le hbm s
    have hal := allK_le hbm
    refine v0 (S0.assign rfl) rfl <| v0 (S0.assign rfl) rfl <| vE <| WP.seq <| WP.region <| v0 (S0.move rfl) rfl <| v0 (S0.move rfl) rfl <| ?_  -- op t46 := call F17{(*rivulet/trie.Trie).Match}(t44, t45)
    refine vc (S1.callF rfl (match_spec0 hD hbm (by decide) (s := s) hsl) (take1 (atS (atS (atS at0))) take0)) rfl ?_
    rintro mv2 _ ⟨mrow2, hm2, rfl⟩
    refine app ?_
    refine v0 (S0.move rfl) rfl <| ?_  -- op t48 := call F19{rivulet/rivuletref04.Ints}(t46, t47)
    refine vcd (S1.callF rfl (ints_spec hm2 hm (by omega)) (take1 at0 (take1 (atS (atS (atS at0))) take0))) rfl ?_
    refine v0 (S0.move rfl) rfl <| ?_  -- guard t49 (wants True) at t50 := move t8 [if #5=True]
    refine csTh (t := 49) rfl ((by simp)) ?_
    refine gT rfl <| v0 (S0.move rfl) rfl <| ?_  -- op t51 := call F18{(*rivulet/trie.Trie).All}(t50) [if #5=True]
    refine gT rfl <| vc (S1.callF rfl (all_spec hD hbm (by decide)) (take1 (atS (atS at0)) take0)) rfl ?_
    rintro av2 _ ⟨arow2, ha2, rfl⟩
    refine app ?_
    refine gT rfl <| v0 (S0.move rfl) rfl <| ?_  -- op t53 := call F21{rivulet/rivuletref02.Same}(t51, t52) [if #5=True]
    refine gT rfl <| vcd (S1.callF rfl (same_spec ha2.rdS ha.rdS (by omega)) (take1 at0 (take1 (atS (atS (atS at0))) take0))) rfl ?_
    have et : ∀ l : List Str, decide (l = l) = true := fun l => by simp
    rw [et]
    refine v0 (S0.pickT rfl rfl) rfl <| v0 (S0.assign rfl) rfl <| vE <| WP.seq <| WP.region <| v0 (S0.move rfl) rfl <| ?_  -- op t56 := call F13{(*rivulet/trie.Trie).Add}(t55, Value.string {'data': [35]}, 5:i64)
    refine vc (S1.callF rfl (add_spec hD hbm (by decide) (f := [35]) (by decide) 5) (take1 (atS (atS at0)) take0)) rfl ?_
    rintro _ _ ⟨d1, rfl, hD1, rfl⟩
    refine app ?_
    refine vE <| WP.seq <| WP.region <| v0 (S0.move rfl) rfl <| ?_  -- op t58 := call F13{(*rivulet/trie.Trie).Add}(t57, Value.string {'data': [122, 122, 47, 43]}, 7:i64)
    refine vc (S1.callF rfl (add_spec hD1 (hbm.addR _ _) (by decide) (f := [122, 122, 47, 43]) (by decide) 7) (take1 at0 take0)) rfl ?_
    rintro _ _ ⟨d2, rfl, hD2, rfl⟩
    refine app ?_
    have hbD := (hbm.addR [35] 5).addR [122, 122, 47, 43] 7
    generalize addR (addR L [35] 5) [122, 122, 47, 43] 7 = D at hD2 hbD
    obtain ⟨aa, ac, rfl, hac, -⟩ := ha.strsE
    obtain ⟨ma, mc, rfl, hmc, -⟩ := hm.intsE
    refine vE <| WP.seq <| WP.seq <| WP.region <| v0 (S0.assign rfl) rfl <| vE <| WP.block <| ?_  -- Code.loop
    refine WP.loop (fun st : Nat × Asks × List Blk => st.1 ≤ M.length ∧ IsTr tb2 st.2.1 st.2.2 ∧ AskB st.2.1 62) (fun st : Nat × Asks × List Blk => [(1, sv s), (5, .slice a M.length cap), (6, .pointer (some ⟨tb, 0, none⟩)), (8, .pointer (some ⟨tb2, 0, none⟩)), (9, .slice ma (idsK L s).length mc), (10, .slice aa (allK L).length ac), (11, .bool true), (12, .int .i64 (st.1 : Int))]) (fun st : Nat × Asks × List Blk => [st.2.2, row, c, mrow, arow, whole W]) (fun st : Nat × Asks × List Blk => M.length - st.1) ((0, D, d2)) (⟨Nat.zero_le _, hD2, hbD⟩) ⟨rfl, rfl, rfl, rfl, rfl, rfl, rfl, rfl, trivial⟩ ⟨_, (take1 at0 (take1 (atS (atS (atS (atS (atS at0))))) (take1 (atS (atS (atS (atS at0)))) (take1 (atS (atS (atS at0))) (take1 (atS at0) (take1 (atS (atS at0)) take0))))))⟩ (fun st hinv => ?_) 
    obtain ⟨k, D1, dc⟩ := st
    obtain ⟨hk, hDk, hbk⟩ := hinv
    dsimp only at hk hDk hbk ⊢
    refine WP.seq <| WP.seq <| WP.region <| v0 (S0.move rfl) rfl <| v0 (S0.move rfl) rfl <| v0 (S0.lenSl rfl) rfl <| v0 (S0.cmp rfl rfl rfl) rfl <| vE <| ?_  -- cond
    first | refine WP.condP rfl (fun h2 => ?_) (fun h2 => ?_) | refine WP.condN rfl (fun h2 => ?_) (fun h2 => ?_) | refine WP.cond rfl (fun h2 => ?_) (fun h2 => ?_)
    · skip
      have hlt : k < M.length := by omega
      rcases hrow with ⟨e, -⟩ | ⟨b1, sp1, rfl, rfl, hsp1⟩
      · rw [e] at hlt; simp at hlt
      have hx : M[k]? = some M[k] := by simp [hlt]
      generalize M[k] = x at hx
      refine WP.skip <| WP.seq <| WP.block <| WP.region <| v0 (S0.move rfl) rfl <| v0 (S0.move rfl) rfl <| v0 (S0.move rfl) rfl <| ?_  -- op t68 := indexAddr 22 t66 t67
      refine v0 (S0.indexN (k := 4) rfl rfl hlt) rfl <| ?_
      refine v0 (S0.fieldAddr rfl) rfl <| ?_  -- limit
      refine v0 (S0.load (v := .int .i64 x.2.2.1) rfl (flat_get enO_len sp1 M k 2 _ hx (by decide))) rfl <| ?_
      refine vc (S1.callF rfl (leave_spec hDk hbk (by decide) x.2.2.1) (take1 at0 take0)) rfl ?_
      rintro _ _ ⟨d3, rfl, hD3, rfl⟩
      refine app ?_
      refine vE <| WP.region <| v0 (S0.move rfl) rfl <| v0 (S0.ari rfl rfl rfl (wrap_i64 (by omega))) rfl <| v0 (S0.assign rfl) rfl <| vE <| ?_  -- roundend
      exact ⟨(k + 1, leaveK D1 x.2.2.1, d3), (by first | exact ⟨hlt, hD3, hbk.leave _⟩ | (dsimp only; exact ⟨hlt, hD3, hbk.leave _⟩)), (show M.length - (k + 1) < M.length - k by omega), ⟨⟨rfl, rfl, rfl, rfl, rfl, rfl, rfl, rfl, trivial⟩, rfl, rfl⟩, ⟨_, (take1 at0 (take1 at0 (take1 at0 (take1 at0 (take1 at0 (take1 at0 take0))))))⟩⟩
    · skip
      refine WP.exit <| WP.seq <| WP.region <| v0 (S0.move rfl) rfl <| v0 (S0.move rfl) rfl <| ?_  -- guard t73 (wants True) at t74 := move t6 [if #1=True]
      refine csTh (t := 73) rfl (rfl) ?_
      refine gT rfl <| v0 (S0.move rfl) rfl <| gT rfl <| v0 (S0.move rfl) rfl <| ?_  -- op t76 := call F17{(*rivulet/trie.Trie).Match}(t74, t75) [if #1=True]
      refine gT rfl <| vc (S1.callF rfl (match_spec0 hT hbm (by decide) (s := s) hsl) (take1 (atS (atS at0)) take0)) rfl ?_
      rintro mv3 _ ⟨mrow3, hm3, rfl⟩
      refine app ?_
      refine gT rfl <| v0 (S0.move rfl) rfl <| ?_  -- op t78 := call F19{rivulet/rivuletref04.Ints}(t76, t77) [if #1=True]
      refine gT rfl <| vcd (S1.callF rfl (ints_spec hm3 hm (by omega)) (take1 at0 (take1 (atS (atS (atS at0))) take0))) rfl ?_
      refine v0 (S0.pickT rfl rfl) rfl <| v0 (S0.move rfl) rfl <| ?_  -- guard t80 (wants True) at t81 := move t6 [if #8=True]
      refine csTh (t := 80) rfl ((by simp)) ?_
      refine gT rfl <| v0 (S0.move rfl) rfl <| ?_  -- op t82 := call F18{(*rivulet/trie.Trie).All}(t81) [if #8=True]
      refine gT rfl <| vc (S1.callF rfl (all_spec hT hbm (by decide)) (take1 (atS (atS at0)) take0)) rfl ?_
      rintro av3 _ ⟨arow3, ha3, rfl⟩
      refine app ?_
      refine gT rfl <| v0 (S0.move rfl) rfl <| ?_  -- op t84 := call F21{rivulet/rivuletref02.Same}(t82, t83) [if #8=True]
      refine gT rfl <| vcd (S1.callF rfl (same_spec ha3.rdS ha.rdS (by omega)) (take1 at0 (take1 (atS (atS (atS (atS (atS at0))))) take0))) rfl ?_
      refine v0 (S0.pickT rfl rfl) rfl <| v0 (S0.move rfl) rfl <| ?_  -- guard t86 (wants True) at t87 := call F27{rivulet/rivuletlaw04.fixed}() [if #14=True]
      refine csTh (t := 86) rfl ((by simp)) ?_
      -- (nothing to walk: op t87 := call F27{rivulet/rivuletlaw04.fixed}() [if #14=True])
      refine gT rfl <| vcd (S1.callF rfl (fixed_spec) take0) rfl ?_
      refine v0 (S0.pickT rfl rfl) rfl <| v0 (S0.assign rfl) rfl <| vE <| WP.ret <| ?_  -- ret
      refine Leaves.drop (take1 (atS (atS (atS (atS (atS (atS (atS at0))))))) take0) ?_
      refine r1 rfl rfl ?_
      exact ⟨rfl, rfl⟩
end Go.Proofs.YtmkgokjfkmbcoaaGreatDoor
