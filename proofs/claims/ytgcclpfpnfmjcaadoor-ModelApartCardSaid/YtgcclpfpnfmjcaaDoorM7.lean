import Derived.Test.YtgcclpfpnfmjcaaDoorM6
namespace Go.Proofs.YtgcclpfpnfmjcaaDoor
open Go

section
variable {P : Program} {f : Fr} {d : Option Tmp} {ty : TypeId} {p : String} {af : Array Edge} {gd : Option (Nat × Bool)} {S : Hp}
variable {κ : Type} [DecidableEq κ] {ek : κ → Value} {T K V : TypeId} {x y : Operand} {sz by_ : Nat} {zv v mv : Value}
theorem S0.lookupA (k : κ) [u : Und P T (.map K V)] [mk : MKey P K ek] [i : Inf P V sz by_ zv] (hx : ev f x = some mv) (hy : ev f y = some (ek k)) (H : (mv = .map none ∧ zv = v) ∨ ∃ m L ck, mv = .map (some m) ∧ (m, mapO ek L ck) ∈ S.flatten ∧ (getM L k).getD zv = v) :
    S0 P f S.flatten ⟨d, .lookup T x y false, ty, p, af, gd⟩ v := by
  rcases H with ⟨rfl, rfl⟩ | ⟨m, L, ck, rfl, hm, hg⟩
  · exact S0.lookupN (u := u) (mk := mk) (i := i) k hx hy
  · have : Has S m (mapO ek L ck) := ⟨hm⟩
    exact S0.lookupV (u := u) (mk := mk) (i := i) hx hy hg
end
theorem Num.look {l : List Se} {n d : Int} {mo : Nat} {c : List Blk} (h : Num l n d mo c) : ∃ (L : ML Int) (ck : Nat), WfM L ck ∧ HasC c mo (mapO (Value.int .i64) L ck) ∧ (∀ o, (getM L o).isSome = true ↔ ∃ s, hadB l n d o s = true) ∧
    ∀ o, ((getM L o).getD (.map none) = .map none ∧ ∀ s, hadB l n d o s = false) ∨ ∃ m L' ck', (getM L o).getD (.map none) = .map (some m) ∧ WfM L' ck' ∧ (m, mapO (Value.int .i64) L' ck') ∈ c ∧ ∀ s, getM L' s = if hadB l n d o s then some (.bool true) else none := by
  obtain ⟨L, ck, I, hwf, hn, rfl⟩ := h
  refine ⟨L, ck, hwf, inferInstance, fun o => ?_, fun o => ?_⟩
  · by_cases ho : o ∈ I.map (·.1)
    · obtain ⟨q, hq, rfl⟩ := List.mem_map.1 ho
      rw [hn.get q hq]
      simpa using hn.ex q hq
    · rw [hn.non o ho]
      simp only [Option.isSome_none, Bool.false_eq_true, false_iff]
      rintro ⟨s, hs⟩
      exact ho (hn.all o s hs)
  · by_cases ho : o ∈ I.map (·.1)
    · obtain ⟨q, hq, rfl⟩ := List.mem_map.1 ho
      exact .inr ⟨q.2.1, q.2.2.1, q.2.2.2, by rw [hn.get q hq]; rfl, hn.wf q hq, List.mem_cons_of_mem _ (List.mem_map.2 ⟨q, hq, rfl⟩), hn.has q hq⟩
    · refine .inl ⟨by rw [hn.non o ho]; rfl, fun s => ?_⟩
      cases hs : hadB l n d o s with
      | false => rfl
      | true => exact absurd (hn.all o s hs) ho
theorem missing_spec {tv v : Value} {t : List Ev} {l : List Se} {ct c : List Blk} (ht : Rd 5 evB tv t ct) (hr : Rd 7 seB v l c) (hw : ∀ e ∈ t, EvOk e) (htl : t.length ≤ 1000) (hl : l.length ≤ 1000000) (n d : Int) {f : Str} (hf : f.length ≤ 800000) :
    FN Tryd.prog 20 [tv, v, .int .i64 n, .int .i64 d, sv f] [ct, c] (fun v' h => ∃ row, IsSl 37 5 v' ((missB t l n d f).flatMap evB) row ∧ h = [row, ct, c]) := by
  have hr' := hr
  obtain ⟨ta, tcap, rfl, -, ht⟩ := ht
  obtain ⟨a, cap, rfl, -, -⟩ := hr
  refine FN.intro 46 [(0, .slice ta t.length tcap), (1, .slice a l.length cap), (2, .int .i64 n), (3, .int .i64 d), (4, sv f)] Tryd.func20 rfl (enters Tryd.func20 (by kernel_rfl) rfl) Tryd.ntmps20 rfl rfl ?_
  refine WP.seq <| WP.region <| v0 (S0.assign rfl) rfl <| vE <| WP.seq <| WP.region <| v0 (S0.move rfl) rfl <| v0 (S0.move rfl) rfl <| v0 (S0.move rfl) rfl <| v0 (S0.build rfl (qs := [(0, _), (1, _)]) rfl) rfl <| ?_  -- op t19 := call F36{rivulet/model.numbers}(t15, t18)
  refine vc (S1.callF rfl (numbers_spec hr' hl n d) (take1 (atS at0) take0)) rfl ?_
  rintro _ _ ⟨mo, cn, rfl, hnum, rfl⟩
  refine app ?_
  obtain ⟨L, ck, -, hLm, -, hlook⟩ := hnum.look
  refine v0 (S0.assign rfl) rfl <| vE <| WP.seq <| WP.region <| v0 (S0.assign rfl) rfl <| vE <| WP.seq <| WP.seq <| WP.region <| v0 (S0.move rfl) rfl <| v0 (S0.lenSl rfl) rfl <| v0 (S0.move rfl) rfl <| vE <| WP.block <| ?_  -- Code.loop
  refine WP.loop (fun st : Nat × Value × List Blk => st.1 ≤ t.length ∧ IsSl 37 5 st.2.1 ((missB (t.take st.1) l n d f).flatMap evB) st.2.2) (fun st : Nat × Value × List Blk => [(4, sv f), (11, .map (some mo)), (12, st.2.1), (20, .slice ta t.length tcap), (21, .int .i64 (t.length : Int)), (22, .int .i64 (st.1 : Int))]) (fun st : Nat × Value × List Blk => st.2.2 :: cn :: c :: ct :: []) (fun st : Nat × Value × List Blk => t.length - st.1) ((0, _, [])) (⟨Nat.zero_le _, .nil⟩) ⟨rfl, rfl, rfl, rfl, rfl, rfl, trivial⟩ ⟨[], by simp⟩ (fun st hinv => ?_) 
  obtain ⟨i, ov, orow⟩ := st
  obtain ⟨hi, hosl⟩ := hinv
  dsimp only at hi hosl ⊢
  have hml : (missB (t.take i) l n d f).length ≤ 1000 := by
    have := List.length_filter_le (fun e => matchS f e.t && !hadB l n d e.o e.s) (t.take i)
    rw [List.length_take] at this; unfold missB; omega
  refine WP.seq <| WP.region <| v0 (S0.cmp rfl rfl rfl) rfl <| vE <| WP.seq <| ?_  -- cond
  first | refine WP.condP rfl (fun h1 => ?_) (fun h1 => ?_) | refine WP.condN rfl (fun h1 => ?_) (fun h1 => ?_) | refine WP.cond rfl (fun h1 => ?_) (fun h1 => ?_)
  · skip
    have hlt : i < t.length := by omega
    rcases ht with e | ⟨b, of, GL, U, fz, rfl, hmem, hel⟩
    · rw [e] at hlt; simp at hlt
    have : HasC ct b (.cells ⟨GL⟩ U fz) := ⟨hmem⟩
    have hx : t[i]? = some t[i] := by simp [hlt]
    have hok := hw _ (List.getElem_mem hlt)
    generalize t[i] = x at hx hok
    have hele := hel i x hx
    have hxt := hok.t
    have hstep : missB (t.take (i + 1)) l n d f = missB (t.take i) l n d f ++ if matchS f x.t && !hadB l n d x.o x.s then [x] else [] := by
      rw [take_snoc hx, missB, List.filter_append, List.filter_cons, List.filter_nil]; rfl
    refine WP.skip <| WP.seq <| WP.block <| WP.seq <| WP.region <| ?_  -- op t24 := indexAddr 22 t20 t22
    refine v0 (S0.indexO rfl rfl hlt) rfl <| ?_
    refine v0 (S0.loadA (vs := evB x) rfl hele rfl) rfl <| ?_
    refine vn (S1.alloc) rfl fun b14 => vs (S1.storeA rfl rfl rfl) <| vE <| WP.seq <| WP.region <| v0 (S0.move rfl) rfl <| v0 (S0.fieldAddr rfl) rfl <| v0 (S0.load rfl rfl) rfl <| ?_  -- op t29 := call F37{rivulet/topic.Match}(t26, t28)
    refine vcd (S1.callF rfl (match_spec (show f.length ≤ 1000000 by omega) (show x.t.length ≤ 1000000 by omega)) take0) rfl ?_
    refine v0 (S0.move rfl) rfl <| ?_  -- guard t30 (wants True) at t31 := move t11 [if #4=True]
    first | refine csP (t := 30) rfl (fun h2 => ?_) (fun h2 => ?_) | refine csN (t := 30) rfl (fun h2 => ?_) (fun h2 => ?_) | refine cs (t := 30) rfl (fun h2 => ?_) (fun h2 => ?_)
    · skip
      refine gT rfl <| v0 (S0.move rfl) rfl <| gT rfl <| v0 (S0.fieldAddr rfl) rfl <| gT rfl <| v0 (S0.load rfl rfl) rfl <| ?_  -- op t34 := lookup 71 t31 t33 false [if #4=True]
      refine gT rfl <| v0 (S0.lookupV (ek := Value.int .i64) rfl rfl rfl) rfl <| ?_
      refine gT rfl <| v0 (S0.fieldAddr rfl) rfl <| gT rfl <| v0 (S0.load rfl rfl) rfl <| ?_  -- op t37 := lookup 74 t34 t36 false [if #4=True]
      refine gT rfl <| v0 (S0.lookupA (ek := Value.int .i64) (v := .bool (hadB l n d x.o x.s)) x.s rfl rfl ((hlook x.o).imp (fun ⟨e1, e2⟩ => ⟨e1, by rw [e2]⟩) (fun ⟨m, L', ck', e1, _, e2, e3⟩ => ⟨m, L', ck', e1, List.mem_flatten.2 ⟨cn, by simp, e2⟩, by rw [e3]; cases hadB l n d x.o x.s <;> rfl⟩))) rfl <| ?_
      refine gT rfl <| v0 (S0.not rfl) rfl <| v0 (S0.pickT rfl rfl) rfl <| vE <| ?_  -- cond
      first | refine WP.condP rfl (fun h3 => ?_) (fun h3 => ?_) | refine WP.condN rfl (fun h3 => ?_) (fun h3 => ?_) | refine WP.cond rfl (fun h3 => ?_) (fun h3 => ?_)
      · skip
        have h3' : hadB l n d x.o x.s = false := by simpa using h3
        refine WP.region <| v0 (S0.move rfl) rfl <| v0 (S0.loadAL rfl) rfl <| vnv (S1.buildSlice rfl (qs := [(0, _)]) rfl rfl) rfl fun b42 => ?_  -- op t43 := append(t40, t42) :[22, 22]
        refine ve (S1.appendL rfl hosl rfl rfl (atS (atS at0)) rfl rfl (by rw [flat_len evB_len]; simp; omega)) rfl ?_
        rintro v2 _ ⟨row2, hsl2, rfl⟩
        refine v0 (S0.assign rfl) rfl <| vE <| WP.region <| v0 (S0.ari rfl rfl rfl (wrap_i64 (by omega))) rfl <| v0 (S0.move rfl) rfl <| vE <| ?_  -- roundend
        exact ⟨(i + 1, v2, row2), (by first | exact ⟨hlt, by rw [hstep, h2, h3']; simpa using hsl2⟩ | (dsimp only; exact ⟨hlt, by rw [hstep, h2, h3']; simpa using hsl2⟩)), (show t.length - (i + 1) < t.length - i by omega), ⟨⟨rfl, rfl, rfl, rfl, rfl, rfl, trivial⟩, rfl, rfl⟩, ⟨_, (take1 at0 (take1 (atS (atS at0)) (take1 (atS (atS at0)) (take1 (atS (atS at0)) take0))))⟩⟩
      · skip
        have h3' : hadB l n d x.o x.s = true := by simpa using h3
        refine WP.skip <| WP.region <| v0 (S0.ari rfl rfl rfl (wrap_i64 (by omega))) rfl <| v0 (S0.move rfl) rfl <| vE <| ?_  -- roundend
        exact ⟨(i + 1, ov, orow), (by first | exact ⟨hlt, by rw [hstep, h3']; simpa using hosl⟩ | (dsimp only; exact ⟨hlt, by rw [hstep, h3']; simpa using hosl⟩)), (show t.length - (i + 1) < t.length - i by omega), ⟨⟨rfl, rfl, rfl, rfl, rfl, rfl, trivial⟩, rfl, rfl⟩, ⟨_, (take1 (atS at0) (take1 (atS at0) (take1 (atS at0) (take1 (atS at0) take0))))⟩⟩
    · skip
      refine gF rfl rfl <| gF rfl rfl <| gF rfl rfl <| gF rfl rfl <| gF rfl rfl <| gF rfl rfl <| gF rfl rfl <| gF rfl rfl <| v0 (S0.pickF rfl rfl) rfl <| vE <| WP.condF rfl <| WP.skip <| WP.region <| v0 (S0.ari rfl rfl rfl (wrap_i64 (by omega))) rfl <| v0 (S0.move rfl) rfl <| vE <| ?_  -- roundend
      exact ⟨(i + 1, ov, orow), (by first | exact ⟨hlt, by rw [hstep, h2]; simpa using hosl⟩ | (dsimp only; exact ⟨hlt, by rw [hstep, h2]; simpa using hosl⟩)), (show t.length - (i + 1) < t.length - i by omega), ⟨⟨rfl, rfl, rfl, rfl, rfl, rfl, trivial⟩, rfl, rfl⟩, ⟨_, (take1 (atS at0) (take1 (atS at0) (take1 (atS at0) (take1 (atS at0) take0))))⟩⟩
  · skip
    rw [List.take_of_length_le (by omega)] at hosl
    refine WP.exit <| WP.seq <| WP.region <| v0 (S0.move rfl) rfl <| v0 (S0.assign rfl) rfl <| vE <| WP.ret <| ?_  -- ret
    refine Leaves.drop (take1 at0 (take1 (atS (atS at0)) (take1 (atS at0) take0))) ?_
    refine r1 rfl rfl ?_
    exact ⟨orow, hosl, rfl⟩
end Go.Proofs.YtgcclpfpnfmjcaaDoor
