import Derived.Test.YtgcclpfpnfmjcaaDoorM5
namespace Go.Proofs.YtgcclpfpnfmjcaaDoor
open Go

theorem had_spec {v : Value} {l : List Se} {c : List Blk} (hr : Rd 7 seB v l c) (hl : l.length ≤ 1000000) (n d o s : Int) : FN Tryd.prog 39 [v, .int .i64 n, .int .i64 d, .int .i64 o, .int .i64 s] [c] (is (.bool (hadB l n d o s)) [c]) := by
  obtain ⟨a, cap, rfl, hcap, hr⟩ := hr
  refine FN.intro 47 [(0, .slice a l.length cap), (1, .int .i64 n), (2, .int .i64 d), (3, .int .i64 o), (4, .int .i64 s)] Tryd.func39 rfl (enters Tryd.func39 (by kernel_rfl) rfl) Tryd.ntmps39 rfl rfl ?_
  refine WP.seq <| WP.region <| v0 (S0.assign rfl) rfl <| vE <| WP.seq <| WP.seq <| WP.region <| v0 (S0.assign rfl) rfl <| vE <| WP.block <| ?_  -- Code.loop
  refine WP.loop (fun i : Nat => i ≤ l.length ∧ hadB (l.take i) n d o s = false) (fun i : Nat => [(0, .slice a l.length cap), (1, .int .i64 n), (2, .int .i64 d), (3, .int .i64 o), (4, .int .i64 s), (11, .int .i64 (i : Int))]) (fun i : Nat => [c]) (fun i : Nat => l.length - i) (0) (⟨Nat.zero_le _, rfl⟩) ⟨rfl, rfl, rfl, rfl, rfl, rfl, trivial⟩ ⟨_, (take1 at0 take0)⟩ (fun i hinv => ?_) 
  obtain ⟨hi, hno⟩ := hinv
  refine WP.seq <| WP.seq <| WP.region <| v0 (S0.move rfl) rfl <| v0 (S0.move rfl) rfl <| v0 (S0.lenSl rfl) rfl <| v0 (S0.cmp rfl rfl rfl) rfl <| vE <| ?_  -- cond
  first | refine WP.condP rfl (fun h1 => ?_) (fun h1 => ?_) | refine WP.condN rfl (fun h1 => ?_) (fun h1 => ?_) | refine WP.cond rfl (fun h1 => ?_) (fun h1 => ?_)
  · skip
    have hlt : i < l.length := by omega
    rcases hr with e | ⟨b, of, GL, U, fz, rfl, hmem, hel⟩
    · rw [e] at hlt; simp at hlt
    have : HasC c b (.cells ⟨GL⟩ U fz) := ⟨hmem⟩
    have hx : l[i]? = some l[i] := by simp [hlt]
    have hmm := List.getElem_mem hlt
    generalize l[i] = x at hx hmm
    have hele := hel i x hx
    have hstep : hadB (l.take (i + 1)) n d o s = (isBy x n d && (decide (x.v.o = o) && decide (x.v.s = s))) := by rw [take_snoc hx, had_snoc, hno]; rfl
    have hyes : (isBy x n d && (decide (x.v.o = o) && decide (x.v.s = s))) = true → true = hadB l n d o s := fun e => by
      have : hadB l n d o s = true := List.any_eq_true.2 ⟨x, hmm, by rw [← e]; simp [isBy, Bool.and_assoc]⟩
      rw [this]
    refine WP.skip <| WP.seq <| WP.block <| WP.seq <| WP.region <| v0 (S0.move rfl) rfl <| v0 (S0.move rfl) rfl <| ?_  -- op t21 := indexAddr 25 t19 t20
    refine v0 (S0.indexO rfl rfl hlt) rfl <| ?_
    refine v0 (S0.loadA (vs := seB x) rfl hele rfl) rfl <| ?_
    refine vn (S1.alloc) rfl fun b12 => vs (S1.storeA rfl rfl rfl) <| vE <| WP.seq <| WP.region <| v0 (S0.fieldAddr rfl) rfl <| v0 (S0.load rfl rfl) rfl <| v0 (S0.move rfl) rfl <| v0 (S0.cmp rfl rfl rfl) rfl <| v0 (S0.move rfl) rfl <| ?_  -- guard t27 (wants True) at t28 := fieldAddr 51 t12 1 [if #4=True]
    first | refine csP (t := 27) rfl (fun hq0 => ?_) (fun hq0 => ?_) | refine csN (t := 27) rfl (fun hq0 => ?_) (fun hq0 => ?_) | refine cs (t := 27) rfl (fun hq0 => ?_) (fun hq0 => ?_)
    ·
      refine gT rfl <| v0 (S0.fieldAddr rfl) rfl <| gT rfl <| v0 (S0.load rfl rfl) rfl <| gT rfl <| v0 (S0.move rfl) rfl <| gT rfl <| v0 (S0.cmp rfl rfl rfl) rfl <| v0 (S0.pickT rfl rfl) rfl <| v0 (S0.move rfl) rfl <| ?_
      first | refine csP (t := 33) rfl (fun hq1 => ?_) (fun hq1 => ?_) | refine csN (t := 33) rfl (fun hq1 => ?_) (fun hq1 => ?_) | refine cs (t := 33) rfl (fun hq1 => ?_) (fun hq1 => ?_)
      ·
        refine gT rfl <| v0 (S0.fieldAddr rfl) rfl <| gT rfl <| v0 (S0.fieldAddr rfl) rfl <| gT rfl <| v0 (S0.load rfl rfl) rfl <| gT rfl <| v0 (S0.move rfl) rfl <| gT rfl <| v0 (S0.cmp rfl rfl rfl) rfl <| v0 (S0.pickT rfl rfl) rfl <| v0 (S0.move rfl) rfl <| ?_
        first | refine csP (t := 40) rfl (fun hq2 => ?_) (fun hq2 => ?_) | refine csN (t := 40) rfl (fun hq2 => ?_) (fun hq2 => ?_) | refine cs (t := 40) rfl (fun hq2 => ?_) (fun hq2 => ?_)
        ·
          refine gT rfl <| v0 (S0.fieldAddr rfl) rfl <| gT rfl <| v0 (S0.fieldAddr rfl) rfl <| gT rfl <| v0 (S0.load rfl rfl) rfl <| gT rfl <| v0 (S0.move rfl) rfl <| gT rfl <| v0 (S0.cmp rfl rfl rfl) rfl <| v0 (S0.pickT rfl rfl) rfl <| vE <| ?_
          first | refine WP.condP rfl (fun hq3 => ?_) (fun hq3 => ?_) | refine WP.condN rfl (fun hq3 => ?_) (fun hq3 => ?_) | refine WP.cond rfl (fun hq3 => ?_) (fun hq3 => ?_)
          ·
            refine WP.seq <| WP.region <| v0 (S0.assign rfl) rfl <| vE <| WP.ret <| ?_
            refine Leaves.drop (take1 (atS at0) take0) ?_
            refine r1 rfl rfl ⟨?_, rfl⟩
            exact congrArg Value.bool (hyes (by simp [isBy, *]))
          ·
            refine WP.skip <| WP.region <| v0 (S0.move rfl) rfl <| v0 (S0.ari rfl rfl rfl (wrap_i64 (by omega))) rfl <| v0 (S0.assign rfl) rfl <| vE <| ?_
            exact ⟨i + 1, (by first | exact ⟨hlt, by rw [hstep]; simp [isBy, *]⟩ | (dsimp only; exact ⟨hlt, by rw [hstep]; simp [isBy, *]⟩)), (by omega), ⟨⟨rfl, rfl, rfl, rfl, rfl, rfl, trivial⟩, rfl, rfl⟩, ⟨_, (take1 (atS at0) take0)⟩⟩
        ·
          refine gF rfl rfl <| gF rfl rfl <| gF rfl rfl <| gF rfl rfl <| gF rfl rfl <| v0 (S0.pickF rfl rfl) rfl <| vE <| WP.condF rfl <| WP.skip <| WP.region <| v0 (S0.move rfl) rfl <| v0 (S0.ari rfl rfl rfl (wrap_i64 (by omega))) rfl <| v0 (S0.assign rfl) rfl <| vE <| ?_
          exact ⟨i + 1, (by first | exact ⟨hlt, by rw [hstep]; simp [isBy, *]⟩ | (dsimp only; exact ⟨hlt, by rw [hstep]; simp [isBy, *]⟩)), (by omega), ⟨⟨rfl, rfl, rfl, rfl, rfl, rfl, trivial⟩, rfl, rfl⟩, ⟨_, (take1 (atS at0) take0)⟩⟩
      ·
        refine gF rfl rfl <| gF rfl rfl <| gF rfl rfl <| gF rfl rfl <| gF rfl rfl <| v0 (S0.pickF rfl rfl) rfl <| v0 (S0.move rfl) rfl <| gF rfl rfl <| gF rfl rfl <| gF rfl rfl <| gF rfl rfl <| gF rfl rfl <| v0 (S0.pickF rfl rfl) rfl <| vE <| WP.condF rfl <| WP.skip <| WP.region <| v0 (S0.move rfl) rfl <| v0 (S0.ari rfl rfl rfl (wrap_i64 (by omega))) rfl <| v0 (S0.assign rfl) rfl <| vE <| ?_
        exact ⟨i + 1, (by first | exact ⟨hlt, by rw [hstep]; simp [isBy, *]⟩ | (dsimp only; exact ⟨hlt, by rw [hstep]; simp [isBy, *]⟩)), (by omega), ⟨⟨rfl, rfl, rfl, rfl, rfl, rfl, trivial⟩, rfl, rfl⟩, ⟨_, (take1 (atS at0) take0)⟩⟩
    ·
      refine gF rfl rfl <| gF rfl rfl <| gF rfl rfl <| gF rfl rfl <| v0 (S0.pickF rfl rfl) rfl <| v0 (S0.move rfl) rfl <| gF rfl rfl <| gF rfl rfl <| gF rfl rfl <| gF rfl rfl <| gF rfl rfl <| v0 (S0.pickF rfl rfl) rfl <| v0 (S0.move rfl) rfl <| gF rfl rfl <| gF rfl rfl <| gF rfl rfl <| gF rfl rfl <| gF rfl rfl <| v0 (S0.pickF rfl rfl) rfl <| vE <| WP.condF rfl <| WP.skip <| WP.region <| v0 (S0.move rfl) rfl <| v0 (S0.ari rfl rfl rfl (wrap_i64 (by omega))) rfl <| v0 (S0.assign rfl) rfl <| vE <| ?_
      exact ⟨i + 1, (by first | exact ⟨hlt, by rw [hstep]; simp [isBy, *]⟩ | (dsimp only; exact ⟨hlt, by rw [hstep]; simp [isBy, *]⟩)), (by omega), ⟨⟨rfl, rfl, rfl, rfl, rfl, rfl, trivial⟩, rfl, rfl⟩, ⟨_, (take1 (atS at0) take0)⟩⟩
  · skip
    rw [List.take_of_length_le (by omega)] at hno
    refine WP.exit <| WP.seq <| WP.region <| v0 (S0.assign rfl) rfl <| vE <| WP.ret <| ?_  -- ret
    refine r1 rfl rfl ⟨?_, rfl⟩
    rw [hno]
theorem rmissing_spec {tv v : Value} {t : List Ev} {l : List Se} {ct c : List Blk} (ht : Rd 5 evB tv t ct) (hr : Rd 7 seB v l c) (hw : ∀ e ∈ t, EvOk e) (htl : t.length ≤ 1000) (hl : l.length ≤ 1000000) (n d : Int) {f : Str} (hf : f.length ≤ 800000) :
    FN Tryd.prog 21 [tv, v, .int .i64 n, .int .i64 d, sv f] [ct, c] (fun v' h => ∃ row, IsSl 37 5 v' ((missB t l n d f).flatMap evB) row ∧ h = [row, ct, c]) := by
  have hr' := hr
  obtain ⟨ta, tcap, rfl, -, ht⟩ := ht
  obtain ⟨a, cap, rfl, -, -⟩ := hr
  refine FN.intro 52 [(0, .slice ta t.length tcap), (1, .slice a l.length cap), (2, .int .i64 n), (3, .int .i64 d), (4, sv f)] Tryd.func21 rfl (enters Tryd.func21 (by kernel_rfl) rfl) Tryd.ntmps21 rfl rfl ?_
  refine WP.seq <| WP.region <| v0 (S0.assign rfl) rfl <| vE <| WP.seq <| WP.region <| vnv (S1.buildSlice rfl (qs := []) rfl rfl) rfl fun b13 => v0 (S0.assign rfl) rfl <| vE <| WP.seq <| WP.seq <| WP.region <| v0 (S0.assign rfl) rfl <| vE <| WP.block <| ?_  -- Code.loop
  refine WP.loop (fun st : Nat × Value × List Blk => st.1 ≤ t.length ∧ IsSl 37 5 st.2.1 ((missB (t.take st.1) l n d f).flatMap evB) st.2.2) (fun st : Nat × Value × List Blk => [(0, .slice ta t.length tcap), (1, .slice a l.length cap), (2, .int .i64 n), (3, .int .i64 d), (4, sv f), (11, st.2.1), (12, .int .i64 (st.1 : Int))]) (fun st : Nat × Value × List Blk => [st.2.2, ct, c]) (fun st : Nat × Value × List Blk => t.length - st.1) ((0, _, [(b13, .cells ⟨[]⟩ 37 (0, 0))])) (⟨Nat.zero_le _, IsSl.row (n := 0) (c := 0) (l := []) (sp := []) rfl rfl (Nat.le_refl _)⟩) ⟨rfl, rfl, rfl, rfl, rfl, rfl, rfl, trivial⟩ ⟨_, (take1 at0 (take1 at0 (take1 at0 take0)))⟩ (fun st hinv => ?_) 
  obtain ⟨i, ov, orow⟩ := st
  obtain ⟨hi, hosl⟩ := hinv
  dsimp only at hi hosl ⊢
  have hml : (missB (t.take i) l n d f).length ≤ 1000 := by
    have := List.length_filter_le (fun e => matchS f e.t && !hadB l n d e.o e.s) (t.take i)
    rw [List.length_take] at this; unfold missB; omega
  refine WP.seq <| WP.seq <| WP.region <| v0 (S0.move rfl) rfl <| v0 (S0.move rfl) rfl <| v0 (S0.lenSl rfl) rfl <| v0 (S0.cmp rfl rfl rfl) rfl <| vE <| ?_  -- cond
  first | refine WP.condP rfl (fun h1 => ?_) (fun h1 => ?_) | refine WP.condN rfl (fun h1 => ?_) (fun h1 => ?_) | refine WP.cond rfl (fun h1 => ?_) (fun h1 => ?_)
  · skip
    have hlt : i < t.length := by omega
    rcases ht with e | ⟨b, of, GL, U, fz, rfl, hmem, hel⟩
    · rw [e] at hlt; simp at hlt
    have : HasC ct b (.cells ⟨GL⟩ U fz) := ⟨hmem⟩
    have hx : t[i]? = some t[i] := by simp [hlt]
    have hok := hw _ (List.getElem_mem hlt)
    generalize t[i] = x at hx hok
    have hele := hel i x hx
    have hxt := hok.t
    have hstep : missB (t.take (i + 1)) l n d f = missB (t.take i) l n d f ++ if matchS f x.t && !hadB l n d x.o x.s then [x] else [] := by
      rw [take_snoc hx, missB, List.filter_append, List.filter_cons, List.filter_nil]; rfl
    skip
    refine WP.skip <| WP.seq <| WP.block <| WP.seq <| WP.drawP [(0, none), (1, none), (2, none), (3, none), (4, none), (5, none), (6, none), (7, none), (8, none), (9, none), (10, none), (11, none), (12, none), (13, none), (14, none), (15, none), (16, none), (17, none), (18, none), (19, none), (20, none), (21, none), (22, none), (23, none)] mixed (by kernel_rfl) (by kernel_rfl) (by kernel_rfl) (take1 (atS at0) take0) <| w0 rfl rfl rfl (S0.move rfl) rfl <| w0 rfl rfl rfl (S0.move rfl) rfl <| w0 rfl rfl rfl (S0.move rfl) rfl <| ?_  -- op t23 := indexAddr 22 t21 t22
    refine w0 rfl rfl rfl (S0.indexO rfl rfl hlt) rfl <| ?_
    refine w0 rfl rfl rfl (S0.fieldAddr rfl) rfl <| ?_  -- limit
    refine w0 rfl rfl rfl (S0.load rfl (rd_get (k := 5) hele (j := 2) (by omega))) rfl <| ?_
    -- (nothing to walk: op t26 := call F38{rivulet/rivuletref03.Match}(t20, t25))
    refine wcd rfl rfl rfl rfl (S1.callF rfl (rmatch_spec hf (show x.t.length ≤ 800000 by omega)) take0) rfl ?_
    refine w0 rfl rfl rfl (S0.move rfl) rfl <| ?_  -- guard t27 (wants True) at t28 := move t1 [if #7=True]
    first | refine wcsP (t := 27) rfl (fun h2 => ?_) (fun h2 => ?_) | refine wcsN (t := 27) rfl (fun h2 => ?_) (fun h2 => ?_) | refine wcs (t := 27) rfl (fun h2 => ?_) (fun h2 => ?_)
    · skip
      refine w0 rfl rfl rfl (S0.move rfl) rfl <| w0 rfl rfl rfl (S0.move rfl) rfl <| w0 rfl rfl rfl (S0.move rfl) rfl <| w0 rfl rfl rfl (S0.move rfl) rfl <| w0 rfl rfl rfl (S0.move rfl) rfl <| ?_  -- op t33 := indexAddr 22 t31 t32 [if #7=True]
      refine w0 rfl rfl rfl (S0.indexO rfl rfl hlt) rfl <| ?_
      refine w0 rfl rfl rfl (S0.fieldAddr rfl) rfl <| ?_  -- limit
      refine w0 rfl rfl rfl (S0.load rfl (rd_get (k := 5) hele (j := 0) (by omega))) rfl <| ?_
      refine w0 rfl rfl rfl (S0.move rfl) rfl <| w0 rfl rfl rfl (S0.move rfl) rfl <| ?_  -- op t38 := indexAddr 22 t36 t37 [if #7=True]
      refine w0 rfl rfl rfl (S0.indexO rfl rfl hlt) rfl <| ?_
      refine w0 rfl rfl rfl (S0.fieldAddr rfl) rfl <| ?_  -- limit
      refine w0 rfl rfl rfl (S0.load rfl (rd_get (k := 5) hele (j := 1) (by omega))) rfl <| ?_
      -- (nothing to walk: op t41 := call F39{rivulet/rivuletref22.had}(t28, t29, t30, t35, t40) [if #7=True])
      refine wcd rfl rfl rfl rfl (S1.callF rfl (had_spec hr' hl n d x.o x.s) (take1 (atS at0) take0)) rfl ?_
      refine w0 rfl rfl rfl (S0.not rfl) rfl <| w0 rfl rfl rfl (S0.pickT rfl rfl) rfl <| wE <| ?_  -- cond
      first | refine WP.condP rfl (fun h3 => ?_) (fun h3 => ?_) | refine WP.condN rfl (fun h3 => ?_) (fun h3 => ?_) | refine WP.cond rfl (fun h3 => ?_) (fun h3 => ?_)
      · skip
        have h3' : hadB l n d x.o x.s = false := by simpa using h3
        refine WP.region <| v0 (S0.move rfl) rfl <| v0 (S0.move rfl) rfl <| v0 (S0.move rfl) rfl <| ?_  -- op t47 := indexAddr 22 t45 t46
        refine v0 (S0.indexO rfl rfl hlt) rfl <| ?_
        refine v0 (S0.loadA (vs := evB x) rfl hele rfl) rfl <| ?_
        refine vnv (S1.buildSlice rfl (qs := [(0, _)]) rfl rfl) rfl fun b49 => ?_  -- op t50 := append(t44, t49) :[22, 22]
        refine ve (S1.appendL rfl hosl rfl rfl (atS (atS (atS at0))) rfl rfl (by rw [flat_len evB_len]; simp; omega)) rfl ?_
        rintro v2 _ ⟨row2, hsl2, rfl⟩
        refine v0 (S0.assign rfl) rfl <| vE <| WP.region <| v0 (S0.move rfl) rfl <| v0 (S0.ari rfl rfl rfl (wrap_i64 (by omega))) rfl <| v0 (S0.assign rfl) rfl <| vE <| ?_  -- roundend
        exact ⟨(i + 1, v2, row2), (by first | exact ⟨hlt, by rw [hstep, h2, h3']; simpa using hsl2⟩ | (dsimp only; exact ⟨hlt, by rw [hstep, h2, h3']; simpa using hsl2⟩)), (show t.length - (i + 1) < t.length - i by omega), ⟨⟨rfl, rfl, rfl, rfl, rfl, rfl, rfl, trivial⟩, rfl, rfl⟩, ⟨_, (take1 at0 (take1 (atS at0) (take1 (atS at0) take0)))⟩⟩
      · skip
        have h3' : hadB l n d x.o x.s = true := by simpa using h3
        refine WP.skip <| WP.region <| v0 (S0.move rfl) rfl <| v0 (S0.ari rfl rfl rfl (wrap_i64 (by omega))) rfl <| v0 (S0.assign rfl) rfl <| vE <| ?_  -- roundend
        exact ⟨(i + 1, ov, orow), (by first | exact ⟨hlt, by rw [hstep, h3']; simpa using hosl⟩ | (dsimp only; exact ⟨hlt, by rw [hstep, h3']; simpa using hosl⟩)), (show t.length - (i + 1) < t.length - i by omega), ⟨⟨rfl, rfl, rfl, rfl, rfl, rfl, rfl, trivial⟩, rfl, rfl⟩, ⟨_, (take1 (atS (atS at0)) (take1 at0 (take1 at0 take0)))⟩⟩
    · skip
      refine wF rfl rfl rfl rfl <| wF rfl rfl rfl rfl <| wF rfl rfl rfl rfl <| wF rfl rfl rfl rfl <| wF rfl rfl rfl rfl <| wF rfl rfl rfl rfl <| wF rfl rfl rfl rfl <| wF rfl rfl rfl rfl <| wF rfl rfl rfl rfl <| wF rfl rfl rfl rfl <| wF rfl rfl rfl rfl <| wF rfl rfl rfl rfl <| wF rfl rfl rfl rfl <| wF rfl rfl rfl rfl <| wF rfl rfl rfl rfl <| w0 rfl rfl rfl (S0.pickF rfl rfl) rfl <| wE <| WP.condF rfl <| WP.skip <| WP.region <| v0 (S0.move rfl) rfl <| v0 (S0.ari rfl rfl rfl (wrap_i64 (by omega))) rfl <| v0 (S0.assign rfl) rfl <| vE <| ?_  -- roundend
      exact ⟨(i + 1, ov, orow), (by first | exact ⟨hlt, by rw [hstep, h2]; simpa using hosl⟩ | (dsimp only; exact ⟨hlt, by rw [hstep, h2]; simpa using hosl⟩)), (show t.length - (i + 1) < t.length - i by omega), ⟨⟨rfl, rfl, rfl, rfl, rfl, rfl, rfl, trivial⟩, rfl, rfl⟩, ⟨_, (take1 (atS at0) (take1 at0 (take1 at0 take0)))⟩⟩
  · skip
    rw [List.take_of_length_le (by omega)] at hosl
    refine WP.exit <| WP.seq <| WP.region <| v0 (S0.move rfl) rfl <| v0 (S0.assign rfl) rfl <| vE <| WP.ret <| ?_  -- ret
    refine r1 rfl rfl ?_
    exact ⟨orow, hosl, rfl⟩
end Go.Proofs.YtgcclpfpnfmjcaaDoor
