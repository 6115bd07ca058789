import Derived.Test.YtmnmikcpdhnbnaaB1
namespace Go.Proofs.Ytmnmikcpdhnbnaa
open Go

theorem isT {now : Int} (h : 0 ≤ now ∧ now ≤ 1099511627776) : isTime now = true := isTime_iff.2 h
theorem notT {now : Int} (h : ¬ (0 ≤ now ∧ now ≤ 1099511627776)) : isTime now = false := by rw [← Bool.not_eq_true, isTime_iff]; exact h

theorem watch_spec {b : Nat} {every limit last : Int} {R : BM} {c : List Blk} (hc : IsB b every limit last R c) (k now : Int) :
    FN Try.prog 10 [.pointer (some ⟨b, 0, none⟩), .int .i64 k, .int .i64 now] [c] (fun v h => v = .int .i64 (watchE R k now) ∧ ∃ c', h = [c'] ∧ IsB b every limit last (watchR R k now) c') := by
  obtain ⟨m, L, ck, hr, rfl⟩ := hc
  refine FN.intro 32 [(0, .pointer (some ⟨b, 0, none⟩)), (1, .int .i64 k), (2, .int .i64 now)] Try.func10 rfl (enters Try.func10 (by kernel_rfl) rfl) Try.ntmps10 rfl rfl ?_
  refine WP.seq <| WP.region <| v0 (S0.assign rfl) rfl <| vE <| WP.seq <| WP.seq <| WP.region <| v0 (S0.move rfl) rfl <| ?_  -- op t10 := call F26{rivulet/beat.time}(t9)
  refine vcd (S1.callF rfl (time_spec now) take0) rfl ?_
  refine v0 (S0.not rfl) rfl <| v0 (S0.move rfl) rfl <| ?_  -- guard t12 (wants False) at t13 := move t1 [if #3=False]
  first | refine csP (t := 12) rfl (fun ht => ?_) (fun ht => ?_) | refine csN (t := 12) rfl (fun ht => ?_) (fun ht => ?_) | refine cs (t := 12) rfl (fun ht => ?_) (fun ht => ?_)
  · skip
    refine gF rfl rfl <| gF rfl rfl <| v0 (S0.pickT rfl rfl) rfl <| vE <| WP.condT rfl <| WP.seq <| WP.region <| v0 (S0.assign rfl) rfl <| vE <| WP.ret <| ?_  -- ret
    refine r1 rfl rfl ?_
    have e : watchE R k now = 1 := by simp [watchE, notT ht]
    rw [watchR, e]
    exact ⟨rfl, _, rfl, m, L, ck, hr, rfl⟩
  · skip
    refine gT rfl <| v0 (S0.move rfl) rfl <| gT rfl <| v0 (S0.cmp rfl rfl rfl) rfl <| v0 (S0.pickF rfl rfl) rfl <| vE <| ?_  -- cond
    first | refine WP.condP rfl (fun hk => ?_) (fun hk => ?_) | refine WP.condN rfl (fun hk => ?_) (fun hk => ?_) | refine WP.cond rfl (fun hk => ?_) (fun hk => ?_)
    · skip
      refine WP.seq <| WP.region <| v0 (S0.assign rfl) rfl <| vE <| WP.ret <| ?_  -- ret
      refine r1 rfl rfl ?_
      have e : watchE R k now = 1 := by
        have : decide (0 ≤ k) = false := decide_eq_false (by omega)
        simp [watchE, this]
      rw [watchR, e]
      exact ⟨rfl, _, rfl, m, L, ck, hr, rfl⟩
    · skip
      refine WP.skip <| WP.seq <| WP.seq <| WP.region <| v0 (S0.move rfl) rfl <| v0 (S0.nilCheck rfl) rfl <| v0 (S0.fieldAddr rfl) rfl <| v0 (S0.load rfl rfl) rfl <| v0 (S0.move rfl) rfl <| ?_  -- op t22 := lookup 46 t20 t21 true
      have hg := hr.get k
      have e0 : watchE R k now = if (gB R k).isSome then 9 else 0 := by
        rw [watchE, isT ht, decide_eq_true (by omega : 0 ≤ k)]; rfl
      skip
      cases hgk : gB R k with
      | some t =>
        rw [hgk] at hg
        skip
        refine v0 (S0.lookup2S rfl rfl hg) rfl <| ?_
        refine v0 (S0.move rfl) rfl <| v0 (S0.extract rfl rfl) rfl <| v0 (S0.extract rfl rfl) rfl <| v0 (S0.assign rfl) rfl <| v0 (S0.assign rfl) rfl <| vE <| WP.seq <| WP.region <| v0 (S0.move rfl) rfl <| vE <| ?_  -- cond
        refine WP.condTh rfl (rfl) ?_
        refine WP.seq <| WP.region <| v0 (S0.assign rfl) rfl <| vE <| WP.ret <| ?_  -- ret
        refine r1 rfl rfl ?_
        have e : watchE R k now = 9 := by rw [e0, hgk]; rfl
        rw [watchR, e]
        exact ⟨rfl, _, rfl, m, L, ck, hr, rfl⟩
      | none =>
        rw [hgk] at hg
        skip
        refine v0 (S0.lookup2Z rfl rfl hg) rfl <| ?_
        refine v0 (S0.move rfl) rfl <| v0 (S0.extract rfl rfl) rfl <| v0 (S0.extract rfl rfl) rfl <| v0 (S0.assign rfl) rfl <| v0 (S0.assign rfl) rfl <| vE <| WP.seq <| WP.region <| v0 (S0.move rfl) rfl <| vE <| ?_  -- cond
        refine WP.condFh rfl (rfl) ?_
        refine WP.skip <| WP.seq <| WP.region <| v0 (S0.move rfl) rfl <| v0 (S0.nilCheck rfl) rfl <| v0 (S0.fieldAddr rfl) rfl <| v0 (S0.load rfl rfl) rfl <| v0 (S0.move rfl) rfl <| v0 (S0.move rfl) rfl <| ?_  -- op mapUpdate 46 t29 t30 t31
        refine vs (S1.mapUpdate (ek := Value.int .i64) rfl rfl rfl) <| ?_
        refine vE <| WP.seq <| WP.region <| v0 (S0.assign rfl) rfl <| vE <| WP.ret <| ?_  -- ret
        refine r1 rfl rfl ?_
        have e : watchE R k now = 0 := by rw [e0, hgk]; rfl
        rw [watchR, e]
        exact ⟨rfl, _, rfl, m, _, _, hr.ins now hgk, rfl⟩

theorem heard_spec {b : Nat} {every limit last : Int} {R : BM} {c : List Blk} (hc : IsB b every limit last R c) (k now : Int) :
    FN Try.prog 12 [.pointer (some ⟨b, 0, none⟩), .int .i64 k, .int .i64 now] [c] (fun v h => v = .int .i64 (heardE R k now) ∧ ∃ c', h = [c'] ∧ IsB b every limit last (heardR R k now) c') := by
  obtain ⟨m, L, ck, hr, rfl⟩ := hc
  have hg := hr.get k
  have bad : ∀ e, heardE R k now = e → e ≠ 0 → (fun (v : Value) (h : Hp) => v = .int .i64 (heardE R k now) ∧ ∃ c', h = [c'] ∧ IsB b every limit last (heardR R k now) c') (.int .i64 e) [beatB b every limit last m L ck] := fun e he h0 => by
    subst he
    rw [heardR, if_neg h0]
    exact ⟨rfl, _, rfl, m, L, ck, hr, rfl⟩
  refine FN.intro 35 [(0, .pointer (some ⟨b, 0, none⟩)), (1, .int .i64 k), (2, .int .i64 now)] Try.func12 rfl (enters Try.func12 (by kernel_rfl) rfl) Try.ntmps12 rfl rfl ?_
  refine WP.seq <| WP.region <| v0 (S0.assign rfl) rfl <| vE <| WP.seq <| WP.region <| v0 (S0.move rfl) rfl <| v0 (S0.nilCheck rfl) rfl <| v0 (S0.fieldAddr rfl) rfl <| v0 (S0.load rfl rfl) rfl <| v0 (S0.move rfl) rfl <| ?_  -- op t15 := lookup 46 t13 t14 true
  skip
  cases hgk : gB R k with
  | some t =>
    rw [hgk] at hg
    skip
    refine v0 (S0.lookup2S rfl rfl hg) rfl <| ?_
    refine v0 (S0.move rfl) rfl <| v0 (S0.extract rfl rfl) rfl <| v0 (S0.extract rfl rfl) rfl <| v0 (S0.assign rfl) rfl <| v0 (S0.assign rfl) rfl <| vE <| WP.seq <| WP.block <| WP.seq <| WP.region <| v0 (S0.move rfl) rfl <| ?_  -- op t20 := call F26{rivulet/beat.time}(t19)
    refine vcd (S1.callF rfl (time_spec now) take0) rfl ?_
    refine v0 (S0.not rfl) rfl <| v0 (S0.assign rfl) rfl <| vE <| ?_  -- cond
    first | refine WP.condP rfl (fun ht => ?_) (fun ht => ?_) | refine WP.condN rfl (fun ht => ?_) (fun ht => ?_) | refine WP.cond rfl (fun ht => ?_) (fun ht => ?_)
    · skip
      refine WP.seq <| WP.region <| v0 (S0.assign rfl) rfl <| vE <| WP.ret <| ?_  -- ret
      refine r1 rfl rfl ?_
      exact bad 1 (by simp [heardE, notT ht]) (by decide)
    · skip
      refine WP.seq <| WP.region <| v0 (S0.move rfl) rfl <| v0 (S0.not rfl) rfl <| v0 (S0.assign rfl) rfl <| vE <| ?_  -- cond
      refine WP.condFh rfl (rfl) ?_
      refine WP.seq <| WP.region <| v0 (S0.move rfl) rfl <| v0 (S0.move rfl) rfl <| v0 (S0.cmp rfl rfl rfl) rfl <| v0 (S0.assign rfl) rfl <| vE <| ?_  -- cond
      first | refine WP.condP rfl (fun hl => ?_) (fun hl => ?_) | refine WP.condN rfl (fun hl => ?_) (fun hl => ?_) | refine WP.cond rfl (fun hl => ?_) (fun hl => ?_)
      · skip
        refine WP.seq <| WP.region <| v0 (S0.assign rfl) rfl <| vE <| WP.ret <| ?_  -- ret
        refine r1 rfl rfl ?_
        exact bad 11 (by simp [heardE, isT ht, hgk, hl]) (by decide)
      · skip
        refine WP.skip <| WP.seq <| WP.region <| v0 (S0.move rfl) rfl <| v0 (S0.nilCheck rfl) rfl <| v0 (S0.fieldAddr rfl) rfl <| v0 (S0.load rfl rfl) rfl <| v0 (S0.move rfl) rfl <| v0 (S0.move rfl) rfl <| ?_  -- op mapUpdate 46 t32 t33 t34
        refine vs (S1.mapUpdate (ek := Value.int .i64) rfl rfl rfl) <| ?_
        refine vE <| WP.seq <| WP.region <| v0 (S0.assign rfl) rfl <| vE <| WP.ret <| ?_  -- ret
        refine r1 rfl rfl ?_
        have e : heardE R k now = 0 := by simp [heardE, isT ht, hgk, hl]
        rw [heardR, e]
        exact ⟨rfl, _, rfl, m, _, _, hr.set now hgk, rfl⟩
  | none =>
    rw [hgk] at hg
    skip
    refine v0 (S0.lookup2Z rfl rfl hg) rfl <| ?_
    refine v0 (S0.move rfl) rfl <| v0 (S0.extract rfl rfl) rfl <| v0 (S0.extract rfl rfl) rfl <| v0 (S0.assign rfl) rfl <| v0 (S0.assign rfl) rfl <| vE <| WP.seq <| WP.block <| WP.seq <| WP.region <| v0 (S0.move rfl) rfl <| ?_  -- op t20 := call F26{rivulet/beat.time}(t19)
    refine vcd (S1.callF rfl (time_spec now) take0) rfl ?_
    refine v0 (S0.not rfl) rfl <| v0 (S0.assign rfl) rfl <| vE <| ?_  -- cond
    first | refine WP.condP rfl (fun ht => ?_) (fun ht => ?_) | refine WP.condN rfl (fun ht => ?_) (fun ht => ?_) | refine WP.cond rfl (fun ht => ?_) (fun ht => ?_)
    · skip
      refine WP.seq <| WP.region <| v0 (S0.assign rfl) rfl <| vE <| WP.ret <| ?_  -- ret
      refine r1 rfl rfl ?_
      exact bad 1 (by simp [heardE, notT ht]) (by decide)
    · skip
      refine WP.seq <| WP.region <| v0 (S0.move rfl) rfl <| v0 (S0.not rfl) rfl <| v0 (S0.assign rfl) rfl <| vE <| ?_  -- cond
      refine WP.condTh rfl (rfl) ?_
      refine WP.seq <| WP.region <| v0 (S0.assign rfl) rfl <| vE <| WP.ret <| ?_  -- ret
      refine r1 rfl rfl ?_
      exact bad 8 (by simp [heardE, isT ht, hgk]) (by decide)

theorem drop_spec {b : Nat} {every limit last : Int} {R : BM} {c : List Blk} (hc : IsB b every limit last R c) (ho : OkB R) (k : Int) :
    FN Try.prog 14 [.pointer (some ⟨b, 0, none⟩), .int .i64 k] [c] (fun v h => v = .bool (gB R k).isSome ∧ ∃ c', h = [c'] ∧ IsB b every limit last (delB R k) c') := by
  obtain ⟨m, L, ck, hr, rfl⟩ := hc
  have hg := hr.get k
  refine FN.intro 22 [(0, .pointer (some ⟨b, 0, none⟩)), (1, .int .i64 k)] Try.func14 rfl (enters Try.func14 (by kernel_rfl) rfl) Try.ntmps14 rfl rfl ?_
  refine WP.seq <| WP.region <| v0 (S0.assign rfl) rfl <| vE <| WP.seq <| WP.region <| v0 (S0.move rfl) rfl <| v0 (S0.nilCheck rfl) rfl <| v0 (S0.fieldAddr rfl) rfl <| v0 (S0.load rfl rfl) rfl <| v0 (S0.move rfl) rfl <| ?_  -- op t13 := lookup 46 t11 t12 true
  refine v0 (S0.lookup2 (ek := Value.int .i64) rfl rfl) rfl <| ?_
  refine v0 (S0.move rfl) rfl <| v0 (S0.extract rfl rfl) rfl <| v0 (S0.extract rfl rfl) rfl <| v0 (S0.assign rfl) rfl <| v0 (S0.assign rfl) rfl <| vE <| WP.seq <| WP.region <| v0 (S0.move rfl) rfl <| v0 (S0.nilCheck rfl) rfl <| v0 (S0.fieldAddr rfl) rfl <| v0 (S0.load rfl rfl) rfl <| v0 (S0.move rfl) rfl <| ?_  -- op delete(t19, t20) :[46, 3]
  refine vs (S1.delete (ek := Value.int .i64) rfl rfl) <| ?_
  refine vE <| WP.seq <| WP.region <| v0 (S0.move rfl) rfl <| v0 (S0.assign rfl) rfl <| vE <| WP.ret <| ?_  -- ret
  refine r1 rfl rfl ?_
  rw [hg]
  exact ⟨by simp, _, rfl, m, _, _, hr.del ho k, rfl⟩

theorem due_spec {b : Nat} {every limit last : Int} {R : BM} {c : List Blk} (hc : IsB b every limit last R c) (hl : -1 ≤ last ∧ last ≤ 1099511627776) (now : Int) :
    FN Try.prog 16 [.pointer (some ⟨b, 0, none⟩), .int .i64 now] [c] (fun v h => v = .bool (dueB every last now) ∧ ∃ c', h = [c'] ∧ IsB b every limit (if dueB every last now then now else last) R c') := by
  obtain ⟨m, L, ck, hr, rfl⟩ := hc
  refine FN.intro 32 [(0, .pointer (some ⟨b, 0, none⟩)), (1, .int .i64 now)] Try.func16 rfl (enters Try.func16 (by kernel_rfl) rfl) Try.ntmps16 rfl rfl ?_
  refine WP.seq <| WP.region <| v0 (S0.assign rfl) rfl <| vE <| WP.seq <| WP.seq <| WP.drawP [0, 1, 2, 3, 4, 5, 6, 7, 8, 9, 10, 11, 12, 13, 14, 15, 16, 17, 18, 19, 20, 21, 22] mixed (by kernel_rfl) (by kernel_rfl) (by kernel_rfl) (take1 at0 take0) <| w0 rfl rfl rfl (S0.move rfl) rfl <| ?_  -- op t6 := call F26{rivulet/beat.time}(t5)
  refine wcd rfl rfl rfl (S1.callF rfl (time_spec now) take0) rfl ?_
  refine w0 rfl rfl rfl (S0.not rfl) rfl <| w0 rfl rfl rfl (S0.move rfl) rfl <| ?_  -- guard t8 (wants False) at t9 := move t0 [if #3=False]
  first | refine wcsP (t := 8) rfl (fun ht => ?_) (fun ht => ?_) | refine wcsN (t := 8) rfl (fun ht => ?_) (fun ht => ?_) | refine wcs (t := 8) rfl (fun ht => ?_) (fun ht => ?_)
  · skip
    refine wF rfl rfl rfl <| wF rfl rfl rfl <| wF rfl rfl rfl <| wF rfl rfl rfl <| wF rfl rfl rfl <| wF rfl rfl rfl <| wF rfl rfl rfl <| wF rfl rfl rfl <| wF rfl rfl rfl <| wF rfl rfl rfl <| wF rfl rfl rfl <| wF rfl rfl rfl <| wF rfl rfl rfl <| wF rfl rfl rfl <| wF rfl rfl rfl <| wF rfl rfl rfl <| wF rfl rfl rfl <| wF rfl rfl rfl <| w0 rfl rfl rfl (S0.pickT rfl rfl) rfl <| wE <| WP.condT rfl <| WP.seq <| WP.region <| v0 (S0.assign rfl) rfl <| vE <| WP.ret <| ?_  -- ret
    refine r1 rfl rfl ?_
    have e : dueB every last now = false := by simp [dueB, notT ht]
    rw [e]
    exact ⟨rfl, _, rfl, m, L, ck, hr, rfl⟩
  · skip
    refine w0 rfl rfl rfl (S0.move rfl) rfl <| w0 rfl rfl rfl (S0.nilCheck rfl) rfl <| w0 rfl rfl rfl (S0.fieldAddr rfl) rfl <| w0 rfl rfl rfl (S0.load rfl rfl) rfl <| w0 rfl rfl rfl (S0.cmp rfl rfl rfl) rfl <| w0 rfl rfl rfl (S0.move rfl) rfl <| ?_  -- guard t14 (wants True) at t15 := move t1 [if #9=True]
    first | refine wcsP (t := 14) rfl (fun h1 => ?_) (fun h1 => ?_) | refine wcsN (t := 14) rfl (fun h1 => ?_) (fun h1 => ?_) | refine wcs (t := 14) rfl (fun h1 => ?_) (fun h1 => ?_)
    · skip
      refine w0 rfl rfl rfl (S0.move rfl) rfl <| w0 rfl rfl rfl (S0.move rfl) rfl <| w0 rfl rfl rfl (S0.nilCheck rfl) rfl <| w0 rfl rfl rfl (S0.fieldAddr rfl) rfl <| w0 rfl rfl rfl (S0.load rfl rfl) rfl <| w0 rfl rfl rfl (S0.ari rfl rfl rfl (wrap_i64 (by omega))) rfl <| w0 rfl rfl rfl (S0.move rfl) rfl <| w0 rfl rfl rfl (S0.nilCheck rfl) rfl <| w0 rfl rfl rfl (S0.fieldAddr rfl) rfl <| w0 rfl rfl rfl (S0.load rfl rfl) rfl <| w0 rfl rfl rfl (S0.cmp rfl rfl rfl) rfl <| w0 rfl rfl rfl (S0.pickT rfl rfl) rfl <| w0 rfl rfl rfl (S0.pickF rfl rfl) rfl <| wE <| ?_  -- cond
      first | refine WP.condP rfl (fun h2 => ?_) (fun h2 => ?_) | refine WP.condN rfl (fun h2 => ?_) (fun h2 => ?_) | refine WP.cond rfl (fun h2 => ?_) (fun h2 => ?_)
      · skip
        refine WP.seq <| WP.region <| v0 (S0.assign rfl) rfl <| vE <| WP.ret <| ?_  -- ret
        refine r1 rfl rfl ?_
        have e : dueB every last now = false := by simp [dueB]; omega
        rw [e]
        exact ⟨rfl, _, rfl, m, L, ck, hr, rfl⟩
      · skip
        refine WP.skip <| WP.seq <| WP.region <| v0 (S0.move rfl) rfl <| v0 (S0.move rfl) rfl <| v0 (S0.nilCheck rfl) rfl <| v0 (S0.fieldAddr rfl) rfl <| vs (S1.store rfl rfl (by first | rfl | exact IsSl.cv (by assumption))) <| vE <| WP.seq <| WP.region <| v0 (S0.assign rfl) rfl <| vE <| WP.ret <| ?_  -- ret
        refine r1 rfl rfl ?_
        have e : dueB every last now = true := by simp [dueB, isT ht]; omega
        rw [e]
        exact ⟨rfl, _, rfl, m, L, ck, hr, rfl⟩
    · skip
      refine wF rfl rfl rfl <| wF rfl rfl rfl <| wF rfl rfl rfl <| wF rfl rfl rfl <| wF rfl rfl rfl <| wF rfl rfl rfl <| wF rfl rfl rfl <| wF rfl rfl rfl <| wF rfl rfl rfl <| wF rfl rfl rfl <| wF rfl rfl rfl <| w0 rfl rfl rfl (S0.pickF rfl rfl) rfl <| w0 rfl rfl rfl (S0.pickF rfl rfl) rfl <| wE <| WP.condF rfl <| WP.skip <| WP.seq <| WP.region <| v0 (S0.move rfl) rfl <| v0 (S0.move rfl) rfl <| v0 (S0.nilCheck rfl) rfl <| v0 (S0.fieldAddr rfl) rfl <| vs (S1.store rfl rfl (by first | rfl | exact IsSl.cv (by assumption))) <| vE <| WP.seq <| WP.region <| v0 (S0.assign rfl) rfl <| vE <| WP.ret <| ?_  -- ret
      refine r1 rfl rfl ?_
      have e : dueB every last now = true := by simp [dueB, isT ht, h1]
      rw [e]
      exact ⟨rfl, _, rfl, m, L, ck, hr, rfl⟩

theorem left_spec {b : Nat} {every limit last : Int} {R : BM} {c : List Blk} (hc : IsB b every limit last R c) (ho : OkB R) (hl : 0 ≤ limit ∧ limit ≤ 1000) (k now : Int) :
    FN Try.prog 18 [.pointer (some ⟨b, 0, none⟩), .int .i64 k, .int .i64 now] [c] (is (.tuple ⟨[.int .i64 (leftB R limit k now).1, .bool (leftB R limit k now).2]⟩) [c]) := by
  obtain ⟨m, L, ck, hr, rfl⟩ := hc
  have hg := hr.get k
  refine FN.intro 40 [(0, .pointer (some ⟨b, 0, none⟩)), (1, .int .i64 k), (2, .int .i64 now)] Try.func18 rfl (enters Try.func18 (by kernel_rfl) rfl) Try.ntmps18 rfl rfl ?_
  refine WP.seq <| WP.region <| v0 (S0.assign rfl) rfl <| v0 (S0.assign rfl) rfl <| vE <| WP.seq <| WP.region <| v0 (S0.move rfl) rfl <| v0 (S0.nilCheck rfl) rfl <| v0 (S0.fieldAddr rfl) rfl <| v0 (S0.load rfl rfl) rfl <| v0 (S0.move rfl) rfl <| ?_  -- op t16 := lookup 46 t14 t15 true
  skip
  cases hgk : gB R k with
  | some t =>
    rw [hgk] at hg
    have htm := ho.tm _ (gB_mem hgk)
    simp only at htm
    skip
    refine v0 (S0.lookup2S rfl rfl hg) rfl <| ?_
    refine v0 (S0.move rfl) rfl <| v0 (S0.extract rfl rfl) rfl <| v0 (S0.extract rfl rfl) rfl <| v0 (S0.assign rfl) rfl <| v0 (S0.assign rfl) rfl <| vE <| WP.seq <| WP.seq <| WP.region <| v0 (S0.move rfl) rfl <| v0 (S0.not rfl) rfl <| v0 (S0.move rfl) rfl <| ?_  -- guard t21 (wants False) at t22 := move t2 [if #2=False]
    refine csFh (t := 21) rfl (rfl) ?_
    refine gT rfl <| v0 (S0.move rfl) rfl <| ?_  -- op t23 := call F26{rivulet/beat.time}(t22) [if #2=False]
    refine gT rfl <| vcd (S1.callF rfl (time_spec now) take0) rfl ?_
    refine gT rfl <| v0 (S0.not rfl) rfl <| v0 (S0.pickF rfl rfl) rfl <| vE <| ?_  -- cond
    first | refine WP.condP rfl (fun ht => ?_) (fun ht => ?_) | refine WP.condN rfl (fun ht => ?_) (fun ht => ?_) | refine WP.cond rfl (fun ht => ?_) (fun ht => ?_)
    · skip
      refine WP.seq <| WP.region <| v0 (S0.assign rfl) rfl <| v0 (S0.assign rfl) rfl <| vE <| WP.ret <| ?_  -- ret
      refine r2 rfl rfl rfl ⟨?_, rfl⟩
      simp [leftB, hgk, notT ht]
    · skip
      refine WP.skip <| WP.seq <| WP.drawP [0, 1, 2, 3, 4, 5, 6, 7, 8, 9, 10, 11, 12, 13, 14, 15] mixed (by kernel_rfl) (by kernel_rfl) (by kernel_rfl) (take1 at0 take0) <| w0 rfl rfl rfl (S0.move rfl) rfl <| w0 rfl rfl rfl (S0.nilCheck rfl) rfl <| w0 rfl rfl rfl (S0.fieldAddr rfl) rfl <| w0 rfl rfl rfl (S0.load rfl rfl) rfl <| w0 rfl rfl rfl (S0.move rfl) rfl <| w0 rfl rfl rfl (S0.move rfl) rfl <| w0 rfl rfl rfl (S0.ari rfl rfl rfl (wrap_i64 (by omega))) rfl <| w0 rfl rfl rfl (S0.ari rfl rfl rfl (wrap_i64 (by omega))) rfl <| w0 rfl rfl rfl (S0.move rfl) rfl <| w0 rfl rfl rfl (S0.nilCheck rfl) rfl <| w0 rfl rfl rfl (S0.fieldAddr rfl) rfl <| w0 rfl rfl rfl (S0.load rfl rfl) rfl <| w0 rfl rfl rfl (S0.min2 rfl rfl rfl) rfl <| w0 rfl rfl rfl (S0.max2 rfl rfl rfl) rfl <| w0 rfl rfl rfl (S0.assign rfl) rfl <| w0 rfl rfl rfl (S0.assign rfl) rfl <| wE <| WP.ret <| ?_  -- ret
      refine r2 rfl rfl rfl ⟨?_, rfl⟩
      simp only [leftB, hgk, isT ht, if_true]
      congr 4
      omega
  | none =>
    rw [hgk] at hg
    skip
    refine v0 (S0.lookup2Z rfl rfl hg) rfl <| ?_
    refine v0 (S0.move rfl) rfl <| v0 (S0.extract rfl rfl) rfl <| v0 (S0.extract rfl rfl) rfl <| v0 (S0.assign rfl) rfl <| v0 (S0.assign rfl) rfl <| vE <| WP.seq <| WP.seq <| WP.region <| v0 (S0.move rfl) rfl <| v0 (S0.not rfl) rfl <| v0 (S0.move rfl) rfl <| ?_  -- guard t21 (wants False) at t22 := move t2 [if #2=False]
    refine csTh (t := 21) rfl (rfl) ?_
    refine gF rfl rfl <| gF rfl rfl <| gF rfl rfl <| v0 (S0.pickT rfl rfl) rfl <| vE <| WP.condT rfl <| WP.seq <| WP.region <| v0 (S0.assign rfl) rfl <| v0 (S0.assign rfl) rfl <| vE <| WP.ret <| ?_  -- ret
    refine r2 rfl rfl rfl ⟨?_, rfl⟩
    simp [leftB, hgk]

theorem late_spec {b : Nat} {every limit last : Int} {R : BM} {c : List Blk} (hc : IsB b every limit last R c) (ho : OkB R) (hl : R.length ≤ 1000000) (now : Int) :
    FN Try.prog 21 [.pointer (some ⟨b, 0, none⟩), .int .i64 now] [c] (fun v h => ∃ row, IsSl 3 1 v (ints (lateB R limit now)) row ∧ h = [row, c]) := by
  obtain ⟨m, L, ck, hr, rfl⟩ := hc
  refine FN.intro 11 [(0, .pointer (some ⟨b, 0, none⟩)), (1, .int .i64 now)] Try.func21 rfl (enters Try.func21 (by kernel_rfl) rfl) Try.ntmps21 rfl rfl ?_
  refine WP.seq <| WP.region <| vn (S1.box rfl rfl) rfl fun b2 => vn (S1.box rfl rfl) rfl fun b3 => v0 (S0.assign rfl) rfl <| vE <| WP.seq <| WP.seq <| WP.region <| v0 (S0.load rfl rfl) rfl <| ?_  -- op t6 := call F26{rivulet/beat.time}(t5)
  refine vcd (S1.callF rfl (time_spec now) take0) rfl ?_
  refine v0 (S0.not rfl) rfl <| vE <| ?_  -- cond
  first | refine WP.condP rfl (fun ht => ?_) (fun ht => ?_) | refine WP.condN rfl (fun ht => ?_) (fun ht => ?_) | refine WP.cond rfl (fun ht => ?_) (fun ht => ?_)
  · skip
    refine WP.seq <| WP.region <| v0 (S0.assign rfl) rfl <| vE <| WP.ret <| ?_  -- ret
    refine Leaves.drop (take1 (atS (atS at0)) take0) ?_
    refine Leaves.drop (h' := [[], beatB b every limit last m L ck]) (k := []) (List.Perm.of_eq (by first | rfl | simp)) ?_
    refine r1 rfl rfl ?_
    exact ⟨[], by rw [lateB, notT ht]; exact .nil, rfl⟩
  · skip
    refine WP.skip <| WP.seq <| WP.region <| v0 (S0.load rfl rfl) rfl <| v0 (S0.makeFunc rfl rfl) rfl <| ?_  -- op t10 := call F29{(*rivulet/beat.Beats).such}(t8, t9)
    refine WO.perm (h' := [lateC b b3 b2 now, beatB b every limit last m L ck]) (k := []) (List.Perm.of_eq (by first | rfl | simp)) ?_
    refine vc (S1.callF rfl (such_spec hr ho hl (fun t => decide (limit ≤ now - t)) (fun t h => such_late t h (by omega))) (take1 at0 (take1 at0 take0))) rfl ?_
    rintro v _ ⟨row, hsl, rfl⟩
    refine app ?_
    refine v0 (S0.assign rfl) rfl <| vE <| WP.ret <| ?_  -- ret
    refine Leaves.drop (take1 at0 (take1 (atS at0) take0)) ?_
    refine r1 rfl rfl ?_
    exact ⟨row, by rw [lateB, isT ht]; exact hsl, rfl⟩

theorem ids_spec {b : Nat} {every limit last : Int} {R : BM} {c : List Blk} (hc : IsB b every limit last R c) (ho : OkB R) (hl : R.length ≤ 1000000) :
    FN Try.prog 23 [.pointer (some ⟨b, 0, none⟩)] [c] (fun v h => ∃ row, IsSl 3 1 v (ints (idsB R)) row ∧ h = [row, c]) := by
  obtain ⟨m, L, ck, hr, rfl⟩ := hc
  refine FN.intro 5 [(0, .pointer (some ⟨b, 0, none⟩))] Try.func23 rfl (enters Try.func23 (by kernel_rfl) rfl) Try.ntmps23 rfl rfl ?_
  refine WP.seq <| WP.region <| v0 (S0.assign rfl) rfl <| vE <| WP.seq <| WP.region <| v0 (S0.move rfl) rfl <| ?_  -- op t4 := call F29{(*rivulet/beat.Beats).such}(t3, F31)
  refine WO.perm (h' := [[], beatB b every limit last m L ck]) (k := []) (List.Perm.of_eq (by first | rfl | simp)) ?_
  refine vc (S1.callF rfl (such_spec hr ho hl (fun t => true) (fun t h => such_all t)) (take1 at0 (take1 at0 take0))) rfl ?_
  rintro v _ ⟨row, hsl, rfl⟩
  refine app ?_
  refine v0 (S0.assign rfl) rfl <| vE <| WP.ret <| ?_  -- ret
  refine Leaves.drop (take1 at0 (take1 (atS at0) take0)) ?_
  refine r1 rfl rfl ?_
  have e : (R.filter fun x => (fun _ => true) x.2) = R := List.filter_eq_self.2 fun _ _ => rfl
  rw [e] at hsl
  exact ⟨row, hsl, rfl⟩
end Go.Proofs.Ytmnmikcpdhnbnaa
