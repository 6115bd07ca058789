import Derived.Test.YtjpjebfodhbdfaaGreatDoorMg5
import Derived.Test.YtjpjebfodhbdfaaGreatDoorMg2
import Derived.Test.YtjpjebfodhbdfaaGreatDoorRows
import Derived.ChangeVars
import Derived.JoinedOf
import Derived.LaidLaws
import Derived.LaidHandle
import Derived.SizedLaws
set_option linter.unusedSimpArgs false
set_option linter.unusedVariables false
set_option linter.unnecessarySimpa false
namespace Go.Proofs.YtjpjebfodhbdfaaGreatDoor
open Go
theorem Good.rooms {P : Ct → Prop} {N : Nat} (hN : N ≤ 200000) {b : Ct} {G : Lg} {D : Dk} (h : Good P N b G D) : Rooms b G D := by
  have h1 := h.sv.bn
  have h2 := h.sv.rd
  have h3 := h.sv.n
  have h4 := h.W
  exact ⟨h.sv.ok.w, by omega, by omega, by omega, h.g, by omega⟩
theorem bopen_good {db : Nat} {D D' : Dk} {b : Ct} {G : Lg} {dc : List Blk} (hd : IsDisk db D dc) (hk : DkG D) (hW : D.W.length ≤ 900000) (e1 : openBk D = (0, some (b, G), D')) (e3 : (openLg D).2.1.st = [] ∨ ∃ B, readK (openLg D).2.1.st = some B) :
    FN Tryz.prog 11 [ptrB db] [dc] (fun u h => ∃ bb lb cc lc dc', IsCt bb lb b cc ∧ IsLog lb db G lc ∧ IsDisk db D' dc' ∧ u = .tuple ⟨[ptrB bb, .int .i64 0]⟩ ∧ h = [cc, lc, dc']) :=
  (bopen_spec hd hk hW fun _ => e3).mono fun u h hq => by
    unfold OpenP at hq
    rw [e1] at hq
    rcases hq with ⟨hne, -⟩ | ⟨-, b', G', bb, lb, cc, lc, dc', he, -, -, -, hc, hl, hd', rfl, rfl⟩
    · exact absurd rfl hne
    · cases he
      exact ⟨bb, lb, cc, lc, dc', hc, hl, hd', rfl, rfl⟩
theorem bopen_bad {db : Nat} {D D' : Dk} {e : Int} {dc : List Blk} (hd : IsDisk db D dc) (hk : DkG D) (hW : D.W.length ≤ 900000) (e1 : openBk D = (e, none, D')) (hne : e ≠ 0) (e3 : (openLg D).2.1.st = [] ∨ ∃ B, readK (openLg D).2.1.st = some B) :
    FN Tryz.prog 11 [ptrB db] [dc] (fun u h => ∃ dc', u = .tuple ⟨[.pointer none, .int .i64 e]⟩ ∧ h = [dc']) :=
  (bopen_spec hd hk hW fun _ => e3).mono fun u h hq => by
    unfold OpenP at hq
    rw [e1] at hq
    rcases hq with ⟨-, rfl, dc', -, rfl⟩ | ⟨e0, -⟩
    · exact ⟨dc', rfl, rfl⟩
    · exact absurd e0 hne
theorem xbopen_good {rb : Nat} {D D' : Dk} {b : Ct} {G : Lg} {dc : List Blk} (hd : IsRDk rb D dc) (hk : DkG D) (hW : D.W.length ≤ 900000) (e1 : openBk D = (0, some (b, G), D')) (e3 : (openLg D).2.1.st = [] ∨ ∃ B, readK (openLg D).2.1.st = some B) :
    FN Tryz.prog 12 [ptrB rb] [dc] (fun u h => ∃ rk rl cc lc dc', IsRCt rk rl b cc ∧ IsRLog rl rb G lc ∧ IsRDk rb D' dc' ∧ u = .tuple ⟨[ptrB rk, .int .i64 0]⟩ ∧ h = [cc, lc, dc']) :=
  (xbopen_spec hd hk hW fun _ => e3).mono fun u h hq => by
    unfold OpenQ at hq
    rw [e1] at hq
    rcases hq with ⟨hne, -⟩ | ⟨-, b', G', bb, lb, cc, lc, dc', he, -, -, -, hc, hl, hd', rfl, rfl⟩
    · exact absurd rfl hne
    · cases he
      exact ⟨bb, lb, cc, lc, dc', hc, hl, hd', rfl, rfl⟩
abbrev g0 : Lg := ⟨0, [], [], 0⟩
abbrev ex : Ev := ⟨1, 5, [97], [], 3⟩
abbrev ey : Ev := ⟨1, 7, [98], [], 1⟩
abbrev ez : Ev := ⟨1, 9, [97], [], 0⟩
abbrev b1 : Ct := ⟨[(1, ex)], [(1, 5)], 1⟩
abbrev b2 : Ct := ⟨[(1, ex), (2, ey)], [(1, 7)], 2⟩
abbrev b3 : Ct := ⟨[(1, ⟨1, 5, [97], [], 2⟩)], [(1, 7)], 2⟩
theorem o0 : openBk dk0 = (0, some (ct0, g0), dk0) := by kernel_rfl
def G1 : Lg := (noteK ct0 g0 dk0 (putR ex)).1
def D1 : Dk := (noteK ct0 g0 dk0 (putR ex)).2
theorem p1 : putBk ct0 g0 dk0 ex = (0, b1, G1, D1) := by kernel_rfl
theorem p2 : putBk b1 G1 D1 ex = (11, b1, G1, D1) := by kernel_rfl
theorem p3 : putBk b1 G1 D1 ez = (1, b1, G1, D1) := by kernel_rfl
def G3 : Lg := (noteK b1 (syncLg G1) (syncK D1) (putR ey)).1
def D3 : Dk := (noteK b1 (syncLg G1) (syncK D1) (putR ey)).2
theorem p4 : putBk b1 (syncLg G1) (syncK D1) ey = (0, b2, G3, D3) := by kernel_rfl
theorem p5 : tickBk b2 G3 D3 0 = (1, b2, G3, D3) := by kernel_rfl
theorem p6 : aftV b2 1 = .tuple ⟨[.agg ⟨evB ey⟩, .int .i64 2, .bool true]⟩ := rfl
theorem p7 : missK b2 [(1, 5)] = [ey] := by kernel_rfl
def G5 : Lg := { syncLg G1 with sure := 1 }
def D5 : Dk := (openLg (crashK D3 0)).2.2
theorem p8 : openBk (crashK D3 0) = (0, some (b1, G5), D5) := by kernel_rfl
theorem p8s : (openLg (crashK D3 0)).2.1.st = [] := by kernel_rfl
def G6 : Lg := (noteK b2 G3 D3 (tickR 1)).1
def D6 : Dk := (noteK b2 G3 D3 (tickR 1)).2
theorem p9 : tickBk b2 G3 D3 1 = (0, b3, G6, D6) := by kernel_rfl
theorem p10 : aftV b3 1 = .tuple ⟨[.agg ⟨evB ev0⟩, .int .i64 0, .bool false]⟩ := rfl
def DX : Dk := (appendK dk0 1 (rowB 0 [88])).2
theorem p11 : appendK dk0 1 (rowB 0 [88]) = (0, DX) := by kernel_rfl
theorem p12 : openBk DX = (4, none, syncK DX) := by kernel_rfl
theorem p12s : (openLg DX).2.1.st = [] := by kernel_rfl
end Go.Proofs.YtjpjebfodhbdfaaGreatDoor
namespace Go.Proofs.YtjpjebfodhbdfaaGreatDoor
open Go
section
variable {P : Program} {r : Option Nat} {ops : Array Oper} {Q : Exit → Fr → Hp → Prop} {h : Hp}
def actD (ds : List Nat) (o : Oper) : Bool := actE o || ds.any fun d => o.dst == some d
theorem actD_of {ds : List Nat} {o : Oper} (h : actE o = true) : actD ds o = true := by unfold actD; rw [h]; rfl
theorem WP.drawD (ds : List Nat) {id : Nat} {f : Fr} {S he : Hp} (order : List Stp) (hm : P.follows .mixedOrders = true) (hs : Region.noSelect ops = true) (hd : noDefer ops = true)
    (hc : canon (actD ds) ops ops.size (Array.replicate ops.size false) = some order) (hp : h.flatten.Perm (S.flatten ++ he.flatten)) (H : WD P r S.flatten ops (actD ds) (Q .normal) none order f he) : WP P r (.region id ops true) Q f h := by
  have := WP.draw (id := id) order (actD ds) (fun o h => actD_of (actE_new o h)) (fun o h => actD_of (actE_fun o h)) hm hs hd hc H
  exact ⟨fun E R a w ok st => this.run E R a w ok (by rw [List.flatten_append]; exact st.perm (hp.append_right R))⟩
def canonK (eff : Oper → Bool) (ops : Array Oper) : Nat → Array Bool → Option (List Stp × Array Bool)
  | 0, listed => some ([], listed)
  | n + 1, listed =>
    match (Region.ready .any ops listed).find? fun i => ((ops[i]?).map fun o => !eff o && Region.free .any ops listed i).getD false with
    | some i => (canonK eff ops n (listed.setIfInBounds i true)).map fun q => ((i, none) :: q.1, q.2)
    | none => match Region.ready .any ops listed with
      | [] => none
      | [k] => (canonK eff ops n (listed.setIfInBounds k true)).map fun q => ((k, none) :: q.1, q.2)
      | [x, y] =>
        match pick2 ops listed x y with
        | some (i, j) => (canonK eff ops n (listed.setIfInBounds i true)).map fun q => ((i, some j) :: q.1, q.2)
        | none => none
      | _ => none
theorem canon_cut {eff : Oper → Bool} {ops : Array Oper} {m : Nat} {t : List Stp} : ∀ {k : Nat} {l l' : Array Bool} {s : List Stp}, canonK eff ops k l = some (s, l') → canon eff ops m l' = some t → canon eff ops (k + m) l = some (s ++ t)
  | 0, l, l', s, h1, h2 => by
    simp only [canonK, Option.some.injEq, Prod.mk.injEq] at h1
    obtain ⟨rfl, rfl⟩ := h1
    rw [Nat.zero_add]; exact h2
  | k + 1, l, l', s, h1, h2 => by
    have ih := @canon_cut eff ops m t k
    rw [show k + 1 + m = (k + m) + 1 by omega]
    simp only [canonK] at h1
    simp only [canon]
    have step : ∀ {i : Nat} {w : Option Nat}, (canonK eff ops k (l.setIfInBounds i true)).map (fun q => ((i, w) :: q.1, q.2)) = some (s, l') → (canon eff ops (k + m) (l.setIfInBounds i true)).map ((i, w) :: ·) = some (s ++ t) := fun {i w} h => by
      cases hq : canonK eff ops k (l.setIfInBounds i true) with
      | none => rw [hq] at h; cases h
      | some q =>
        rw [hq] at h
        simp only [Option.map_some, Option.some.injEq, Prod.mk.injEq] at h
        obtain ⟨rfl, rfl⟩ := h
        rw [ih hq h2]; rfl
    split at h1
    · rename_i i he; rw [he]; exact step h1
    · rename_i he
      rw [he]
      dsimp only at h1 ⊢
      split at h1
      · cases h1
      · rename_i k' he2; rw [he2]; exact step h1
      · rename_i x y he2
        rw [he2]
        dsimp only at h1 ⊢
        split at h1
        · rename_i i j he3; rw [he3]; exact step h1
        · cases h1
      · cases h1
def findR (i : Nat) : Code → Option (Array Oper)
  | .region j ops _ => if Nat.beq j i then some ops else none
  | .seq a b => match findR i a with | some x => some x | none => findR i b
  | .cond _ a b => match findR i a with | some x => some x | none => findR i b
  | .block _ a => findR i a
  | .loop a => findR i a
  | .scope a => findR i a
  | .rangeFunc _ _ a b => match findR i a with | some x => some x | none => findR i b
  | _ => none
def regOf (i : Nat) (f : Func) : Array Oper := match f.body with | some c => (findR i c).getD #[] | none => #[]
end
end Go.Proofs.YtjpjebfodhbdfaaGreatDoor
namespace Go.Proofs.YtjpjebfodhbdfaaGreatDoor
open Go
theorem putc {bb lb db : Nat} {b b' : Ct} {G G' : Lg} {D D' : Dk} {cc lc dc : List Blk} {E : Int} {e : Ev} (hr : Rooms b G D) (hc : IsCt bb lb b cc) (hl : IsLog lb db G lc) (hd : IsDisk db D dc) (ht : e.t.length ≤ 900000) (hel : e.l.length ≤ 900000) (he : putBk b G D e = (E, b', G', D')) : FN Tryz.prog 14 [ptrB bb, .agg ⟨evB e⟩] [cc, lc, dc]
    (fun u h => ∃ cc' lc' dc', IsCt bb lb b' cc' ∧ IsLog lb db G' lc' ∧ IsDisk db D' dc' ∧ u = .int .i64 E ∧ h = [cc', lc', dc']) :=
  (bput_spec hr hc hl hd ht hel).mono fun u h ⟨cc', lc', dc', hu, h1, h2, h3, hh⟩ => by
    rw [he] at hu h1 h2 h3; exact ⟨cc', lc', dc', h1, h2, h3, hu, hh⟩
theorem tickc {bb lb db : Nat} {b b' : Ct} {G G' : Lg} {D D' : Dk} {cc lc dc : List Blk} {E n : Int} (hr : Rooms b G D) (hc : IsCt bb lb b cc) (hl : IsLog lb db G lc) (hd : IsDisk db D dc) (he : tickBk b G D n = (E, b', G', D')) : FN Tryz.prog 16 [ptrB bb, .int .i64 n] [cc, lc, dc]
    (fun u h => ∃ cc' lc' dc', IsCt bb lb b' cc' ∧ IsLog lb db G' lc' ∧ IsDisk db D' dc' ∧ u = .int .i64 E ∧ h = [cc', lc', dc']) :=
  (btick_spec hr hc hl hd n).mono fun u h ⟨cc', lc', dc', hu, h1, h2, h3, hh⟩ => by
    rw [he] at hu h1 h2 h3; exact ⟨cc', lc', dc', h1, h2, h3, hu, hh⟩
theorem afterc {bb lb : Nat} {b : Ct} {cc : List Blk} {v : Value} (h : IsCt bb lb b cc) (ho : CtW b) {p : Int} (he : aftV b p = v) : FN Tryz.prog 22 [ptrB bb, .int .i64 p] [cc] (is v [cc]) := by
  have := bafter_spec h ho p
  rw [he] at this; exact this
theorem row_mk {b : Nat} (m : MkT) : IsSl 63 2 (.slice (some ⟨b, 0, none⟩) 1 1) ([m].flatMap enM) [(b, .cells ⟨[.int .i64 m.1, .int .i64 m.2]⟩ 63 (0, 0))] :=
  IsSl.row (E := 63) (k := 2) (b := b) (n := 1) (c := 1) (l := [m].flatMap enM) (sp := []) rfl rfl (Nat.le_refl _)
theorem row_ev {b : Nat} (e : Ev) : IsSl 41 5 (.slice (some ⟨b, 0, none⟩) 1 1) (evsB [e]) [(b, .cells ⟨evB e⟩ 41 (0, 0))] :=
  IsSl.row (E := 41) (k := 5) (b := b) (n := 1) (c := 1) (l := evsB [e]) (sp := []) rfl rfl (Nat.le_refl _)
theorem q1 : Good (fun _ => True) 1 b1 G1 D1 := by have := Good.z.put (by omega) ex (Q := fun _ => True) (fun _ _ => trivial) trivial; rw [p1] at this; exact this
theorem q2 : Good (fun c => c = b1) 1 b1 (syncLg G1) (syncK D1) := q1.sync
theorem q3 : Good (fun _ => True) 2 b2 G3 D3 := by have := q2.put (by omega) ey (Q := fun _ => True) (fun _ _ => trivial) trivial; rw [p4] at this; exact this
theorem q6 : Good (fun _ => True) 3 b3 G6 D6 := by have := q3.tick (by omega) 1 (Q := fun _ => True) (fun _ _ => trivial) trivial; rw [p9] at this; exact this
theorem gX : DkG DX := by have := DkG.z.append (f := 1) (by decide) (rowB 0 [88]); rw [p11] at this; exact this
theorem appendc {db : Nat} {c : List Blk} (h : IsDisk db dk0 c) : FN Tryz.prog 71 [ptrB db, .int .i64 1, sv (rowB 0 [88])] [c] (fun u h => ∃ c', IsDisk db DX c' ∧ h = [c']) :=
  (append_spec h DkG.z.ok (by simp) (f := 1) (by decide) (rowB 0 [88])).mono fun u h q => by
    rw [p11] at q
    obtain ⟨c', h1, -, h3⟩ := q
    exact ⟨c', h1, h3⟩
set_option maxRecDepth 1000000 in
theorem fixR_0 : canonK (actD [190]) (regOf 22 Tryz.f29) 26 (Array.replicate 101 false) = some ([(0, none), (1, none), (2, none), (3, none), (4, none), (5, none), (6, none), (7, none), (8, none), (9, none), (10, none), (11, none), (12, none), (13, none), (14, none), (15, none), (16, none), (17, none), (18, none), (19, none), (20, none), (21, none), (22, none), (23, none), (24, none), (25, none)], #[true, true, true, true, true, true, true, true, true, true, true, true, true, true, true, true, true, true, true, true, true, true, true, true, true, true, false, false, false, false, false, false, false, false, false, false, false, false, false, false, false, false, false, false, false, false, false, false, false, false, false, false, false, false, false, false, false, false, false, false, false, false, false, false, false, false, false, false, false, false, false, false, false, false, false, false, false, false, false, false, false, false, false, false, false, false, false, false, false, false, false, false, false, false, false, false, false, false, false, false, false]) := by kernel_rfl
set_option maxRecDepth 1000000 in
theorem fixR_26 : canonK (actD [190]) (regOf 22 Tryz.f29) 26 (#[true, true, true, true, true, true, true, true, true, true, true, true, true, true, true, true, true, true, true, true, true, true, true, true, true, true, false, false, false, false, false, false, false, false, false, false, false, false, false, false, false, false, false, false, false, false, false, false, false, false, false, false, false, false, false, false, false, false, false, false, false, false, false, false, false, false, false, false, false, false, false, false, false, false, false, false, false, false, false, false, false, false, false, false, false, false, false, false, false, false, false, false, false, false, false, false, false, false, false, false, false]) = some ([(26, none), (27, none), (28, none), (29, none), (30, none), (31, none), (32, none), (33, none), (34, none), (35, none), (36, none), (37, none), (38, none), (39, none), (40, none), (41, none), (43, none), (42, some 44), (44, none), (45, none), (46, none), (47, none), (48, none), (49, none), (50, none), (51, none)], #[true, true, true, true, true, true, true, true, true, true, true, true, true, true, true, true, true, true, true, true, true, true, true, true, true, true, true, true, true, true, true, true, true, true, true, true, true, true, true, true, true, true, true, true, true, true, true, true, true, true, true, true, false, false, false, false, false, false, false, false, false, false, false, false, false, false, false, false, false, false, false, false, false, false, false, false, false, false, false, false, false, false, false, false, false, false, false, false, false, false, false, false, false, false, false, false, false, false, false, false, false]) := by kernel_rfl
set_option maxRecDepth 1000000 in
theorem fixR_52 : canonK (actD [190]) (regOf 22 Tryz.f29) 26 (#[true, true, true, true, true, true, true, true, true, true, true, true, true, true, true, true, true, true, true, true, true, true, true, true, true, true, true, true, true, true, true, true, true, true, true, true, true, true, true, true, true, true, true, true, true, true, true, true, true, true, true, true, false, false, false, false, false, false, false, false, false, false, false, false, false, false, false, false, false, false, false, false, false, false, false, false, false, false, false, false, false, false, false, false, false, false, false, false, false, false, false, false, false, false, false, false, false, false, false, false, false]) = some ([(52, none), (53, none), (54, none), (55, none), (56, none), (57, none), (58, none), (59, none), (60, none), (61, none), (62, none), (63, none), (64, none), (65, none), (66, none), (67, none), (68, none), (69, none), (70, none), (71, none), (72, none), (73, none), (74, none), (75, none), (76, none), (78, none)], #[true, true, true, true, true, true, true, true, true, true, true, true, true, true, true, true, true, true, true, true, true, true, true, true, true, true, true, true, true, true, true, true, true, true, true, true, true, true, true, true, true, true, true, true, true, true, true, true, true, true, true, true, true, true, true, true, true, true, true, true, true, true, true, true, true, true, true, true, true, true, true, true, true, true, true, true, true, false, true, false, false, false, false, false, false, false, false, false, false, false, false, false, false, false, false, false, false, false, false, false, false]) := by kernel_rfl
set_option maxRecDepth 1000000 in
theorem fixR_78 : canon (actD [190]) (regOf 22 Tryz.f29) 23 (#[true, true, true, true, true, true, true, true, true, true, true, true, true, true, true, true, true, true, true, true, true, true, true, true, true, true, true, true, true, true, true, true, true, true, true, true, true, true, true, true, true, true, true, true, true, true, true, true, true, true, true, true, true, true, true, true, true, true, true, true, true, true, true, true, true, true, true, true, true, true, true, true, true, true, true, true, true, false, true, false, false, false, false, false, false, false, false, false, false, false, false, false, false, false, false, false, false, false, false, false, false]) = some [(77, some 79), (79, none), (80, none), (81, none), (82, none), (83, none), (84, none), (85, none), (86, none), (87, none), (88, none), (89, none), (90, none), (91, none), (92, none), (93, none), (94, none), (95, none), (96, none), (97, none), (98, none), (99, none), (100, none)] := by kernel_rfl
theorem fixR_sz : (regOf 22 Tryz.f29).size = 101 := by kernel_rfl
theorem fixR : canon (actD [190]) (regOf 22 Tryz.f29) (regOf 22 Tryz.f29).size (Array.replicate (regOf 22 Tryz.f29).size false) = some [(0, none), (1, none), (2, none), (3, none), (4, none), (5, none), (6, none), (7, none), (8, none), (9, none), (10, none), (11, none), (12, none), (13, none), (14, none), (15, none), (16, none), (17, none), (18, none), (19, none), (20, none), (21, none), (22, none), (23, none), (24, none), (25, none), (26, none), (27, none), (28, none), (29, none), (30, none), (31, none), (32, none), (33, none), (34, none), (35, none), (36, none), (37, none), (38, none), (39, none), (40, none), (41, none), (43, none), (42, some 44), (44, none), (45, none), (46, none), (47, none), (48, none), (49, none), (50, none), (51, none), (52, none), (53, none), (54, none), (55, none), (56, none), (57, none), (58, none), (59, none), (60, none), (61, none), (62, none), (63, none), (64, none), (65, none), (66, none), (67, none), (68, none), (69, none), (70, none), (71, none), (72, none), (73, none), (74, none), (75, none), (76, none), (78, none), (77, some 79), (79, none), (80, none), (81, none), (82, none), (83, none), (84, none), (85, none), (86, none), (87, none), (88, none), (89, none), (90, none), (91, none), (92, none), (93, none), (94, none), (95, none), (96, none), (97, none), (98, none), (99, none), (100, none)] := by rw [fixR_sz]; exact canon_cut fixR_0 (canon_cut fixR_26 (canon_cut fixR_52 (fixR_78)))
set_option maxRecDepth 100000 in
set_option maxHeartbeats 4000000 in
theorem fixed_spec : FN Tryz.prog 29 [] [] (is (.bool true) []) := by
  refine FN.intro 193 [] Tryz.func29 rfl (enters Tryz.func29 (by kernel_rfl) rfl) Tryz.ntmps29 rfl rfl ?_
  refine WP.seq <| WP.region <| v0 (S0.assign rfl) rfl <| vE <| WP.seq <| WP.region <| ?_
  refine vc (S1.callF rfl (new_spec) take0) rfl ?_
  rintro _ _ ⟨db, dc0, rfl, hd0, rfl⟩
  refine app ?_
  refine v0 (S0.assign rfl) rfl <| vE <| WP.seq <| WP.region <| v0 (S0.move rfl) rfl <| ?_
  refine vc (S1.callF rfl (bopen_good hd0 DkG.z (by simp) o0 (.inl rfl)) (take1 at0 take0)) rfl ?_
  rintro _ _ ⟨bb, lb, cc0, lc0, dc1, hc0, hl0, hd1, rfl, rfl⟩
  refine app ?_
  refine v0 (S0.move rfl) rfl <| v0 (S0.extract rfl rfl) rfl <| v0 (S0.extract rfl rfl) rfl <| v0 (S0.assign rfl) rfl <| v0 (S0.assign rfl) rfl <| vE <| WP.seq <| WP.seq <| WP.region <| v0 (S0.move rfl) rfl <| v0 (S0.nilP rfl rfl rfl rfl) rfl <| v0 (S0.move rfl) rfl <| ?_
  refine csFh (t := 33) rfl (rfl) ?_
  refine gT rfl <| v0 (S0.move rfl) rfl <| gT rfl <| v0 (S0.cmp rfl rfl rfl) rfl <| v0 (S0.pickF rfl rfl) rfl <| vE <| ?_
  refine WP.condFh rfl (rfl) ?_
  refine WP.skip <| WP.seq <| WP.region <| v0 (S0.build rfl (qs := [(0, _), (1, _), (2, _), (4, _)]) rfl) rfl <| vn (S1.alloc) rfl fun b4 => vs (S1.storeA rfl rfl rfl) <| vE <| WP.seq <| WP.region <| v0 (S0.build rfl (qs := [(0, _), (1, _), (2, _), (4, _)]) rfl) rfl <| vn (S1.alloc) rfl fun b5 => vs (S1.storeA rfl rfl rfl) <| vE <| WP.seq <| WP.drawP [(0, none), (1, none), (3, none), (4, none), (6, none), (7, none), (2, none), (5, none), (8, none), (9, none), (10, none), (11, none)] mixed (by kernel_rfl) (by kernel_rfl) (by kernel_rfl) (take1 (atS at0) take0) <| w0 rfl rfl rfl (S0.move rfl) rfl <| w0 rfl rfl rfl (S0.loadAL rfl) rfl <| w0 rfl rfl rfl (S0.move rfl) rfl <| w0 rfl rfl rfl (S0.loadAL rfl) rfl <| w0 rfl rfl rfl (S0.move rfl) rfl <| w0 rfl rfl rfl (S0.build rfl (qs := [(0, _), (1, _), (2, _)]) rfl) rfl <| ?_
  refine wc rfl rfl rfl rfl (S1.callF rfl (putc (Good.z.rooms (by omega)) hc0 hl0 hd1 (e := ex) (by simp) (by simp) p1) (take1 (atS at0) (take1 (atS at0) (take1 (atS at0) take0)))) rfl ?_
  rintro _ _ ⟨cc1, lc1, dc2, hc1, hl1, hd2, rfl, rfl⟩
  refine wapp ?_
  refine wc rfl rfl rfl rfl (S1.callF rfl (putc (q1.rooms (by omega)) hc1 hl1 hd2 (e := ex) (by simp) (by simp) p2) (take1 at0 (take1 at0 (take1 at0 take0)))) rfl ?_
  rintro _ _ ⟨cc2, lc2, dc3, hc2, hl2, hd3, rfl, rfl⟩
  refine wapp ?_
  refine wc rfl rfl rfl rfl (S1.callF rfl (putc (q1.rooms (by omega)) hc2 hl2 hd3 (e := ez) (by simp) (by simp) p3) (take1 at0 (take1 at0 (take1 at0 take0)))) rfl ?_
  rintro _ _ ⟨cc3, lc3, dc4, hc3, hl3, hd4, rfl, rfl⟩
  refine wapp ?_
  refine w0 rfl rfl rfl (S0.assign rfl) rfl <| w0 rfl rfl rfl (S0.assign rfl) rfl <| w0 rfl rfl rfl (S0.assign rfl) rfl <| wE <| WP.seq <| WP.region <| v0 (S0.move rfl) rfl <| ?_
  refine vc (S1.callF rfl (bsync_spec hc3 hl3 hd4) (take1 (atS at0) (take1 (atS at0) (take1 (atS at0) take0)))) rfl ?_
  rintro _ _ ⟨lc4, dc5, hl4, hd5, rfl⟩
  refine app ?_
  refine vE <| WP.seq <| WP.region <| v0 (S0.move rfl) rfl <| v0 (S0.loadAL rfl) rfl <| ?_
  refine vc (S1.callF rfl (putc (q2.rooms (by omega)) hc3 hl4 hd5 (e := ey) (by simp) (by simp) p4) (take1 at0 (take1 at0 (take1 at0 take0)))) rfl ?_
  rintro _ _ ⟨cc6, lc6, dc6, hc6, hl6, hd6, rfl, rfl⟩
  refine app ?_
  refine v0 (S0.move rfl) rfl <| ?_
  refine vc (S1.callF rfl (tickc (q3.rooms (by omega)) hc6 hl6 hd6 p5) (take1 at0 (take1 at0 (take1 at0 take0)))) rfl ?_
  rintro _ _ ⟨cc7, lc7, dc7, hc7, hl7, hd7, rfl, rfl⟩
  refine app ?_
  refine v0 (S0.assign rfl) rfl <| v0 (S0.assign rfl) rfl <| vE <| WP.seq <| WP.region <| v0 (S0.move rfl) rfl <| ?_
  refine vcd (S1.callF rfl (afterc hc7 q3.sv.ok.w p6) (take1 at0 take0)) rfl ?_
  refine v0 (S0.move rfl) rfl <| v0 (S0.extract rfl rfl) rfl <| v0 (S0.extract rfl rfl) rfl <| v0 (S0.extract rfl rfl) rfl <| vn (S1.alloc) rfl fun b11 => vs (S1.storeA rfl rfl rfl) <| v0 (S0.assign rfl) rfl <| v0 (S0.assign rfl) rfl <| vE <| WP.seq <| WP.region <| v0 (S0.move rfl) rfl <| v0 (S0.build rfl (qs := [(0, _), (1, _)]) rfl) rfl <| vnv (S1.buildSlice rfl (qs := [(0, _)]) rfl rfl) rfl fun b63 => ?_
  refine vc (S1.callF rfl (bmissing_spec hc7 q3.sv.ok.w (IsSl.rd (k := 1) enM_len (row_mk (1, 5))) (by simp)) (take1 (atS (atS at0)) (take1 at0 take0))) rfl ?_
  rintro mv _ ⟨mrow, hms, rfl⟩
  refine app ?_
  rw [p7] at hms
  refine v0 (S0.assign rfl) rfl <| vE <| WP.seq <| WP.region <| v0 (S0.move rfl) rfl <| ?_
  refine vc (S1.callF rfl (copy_spec hd7 (by have := q3.W; omega)) (take1 (atS (atS (atS (atS (atS at0))))) take0)) rfl ?_
  rintro _ _ ⟨db2, oc, rfl, ho, rfl⟩
  refine app ?_
  refine v0 (S0.assign rfl) rfl <| vE <| WP.seq <| WP.region <| v0 (S0.move rfl) rfl <| ?_
  refine vc (S1.callF rfl (crash_spec ho q3.g.ok (by have := q3.W; omega) 0) (take1 at0 take0)) rfl ?_
  rintro _ _ ⟨oc2, ho2, rfl, rfl⟩
  refine app ?_
  refine vE <| WP.seq <| WP.region <| v0 (S0.move rfl) rfl <| ?_
  refine vc (S1.callF rfl (bopen_good ho2 (q3.g.crash 0) (by simp [crashK]) p8 (.inl p8s)) (take1 at0 take0)) rfl ?_
  rintro _ _ ⟨ob, ol, occ, olc, odc, hoc, hol, hod, rfl, rfl⟩
  refine app ?_
  refine v0 (S0.move rfl) rfl <| v0 (S0.extract rfl rfl) rfl <| v0 (S0.extract rfl rfl) rfl <| v0 (S0.assign rfl) rfl <| v0 (S0.assign rfl) rfl <| vE <| WP.seq <| WP.region <| v0 (S0.move rfl) rfl <| ?_
  refine vc (S1.callF rfl (tickc (q3.rooms (by omega)) hc7 hl7 hd7 p9) (take1 (atS (atS (atS (atS (atS at0))))) (take1 (atS (atS (atS (atS (atS (atS (atS at0))))))) (take1 (atS (atS (atS at0))) take0)))) rfl ?_
  rintro _ _ ⟨cc8, lc8, dc8, hc8, hl8, hd8, rfl, rfl⟩
  refine app ?_
  refine v0 (S0.assign rfl) rfl <| vE <| WP.seq <| WP.region <| v0 (S0.move rfl) rfl <| ?_
  refine vcd (S1.callF rfl (afterc hc8 q6.sv.ok.w p10) (take1 at0 take0)) rfl ?_
  refine v0 (S0.move rfl) rfl <| v0 (S0.extract rfl rfl) rfl <| v0 (S0.extract rfl rfl) rfl <| v0 (S0.extract rfl rfl) rfl <| vn (S1.alloc) rfl fun b19 => vs (S1.storeA rfl rfl rfl) <| v0 (S0.assign rfl) rfl <| v0 (S0.assign rfl) rfl <| vE <| WP.seq <| WP.region <| ?_
  refine vc (S1.callF rfl (new_spec) take0) rfl ?_
  rintro _ _ ⟨xdb, xc0, rfl, hx0, rfl⟩
  refine app ?_
  refine v0 (S0.assign rfl) rfl <| vE <| WP.seq <| WP.region <| v0 (S0.move rfl) rfl <| ?_
  refine vcd (S1.callF rfl (xrow_spec (rd := 0) (by decide) (s := [88]) (by decide)) take0) rfl ?_
  refine vc (S1.callF rfl (appendc hx0) (take1 at0 take0)) rfl ?_
  rintro _ _ ⟨xc1, hx1, rfl⟩
  refine app ?_
  refine vE <| WP.seq <| WP.region <| v0 (S0.move rfl) rfl <| ?_
  refine vc (S1.callF rfl (bopen_bad hx1 gX (by decide) p12 (by decide) (.inl p12s)) (take1 at0 take0)) rfl ?_
  rintro _ _ ⟨xc2, rfl, rfl⟩
  refine app ?_
  refine v0 (S0.move rfl) rfl <| v0 (S0.extract rfl rfl) rfl <| v0 (S0.extract rfl rfl) rfl <| v0 (S0.assign rfl) rfl <| v0 (S0.assign rfl) rfl <| vE <| WP.seq <| WP.seq <| WP.region <| v0 (S0.move rfl) rfl <| v0 (S0.nilP rfl rfl rfl rfl) rfl <| vE <| ?_
  refine WP.condFh rfl (rfl) ?_
  refine WP.skip <| WP.seq <| WP.drawD [190] [(0, none), (1, none), (2, none), (3, none), (4, none), (5, none), (6, none), (7, none), (8, none), (9, none), (10, none), (11, none), (12, none), (13, none), (14, none), (15, none), (16, none), (17, none), (18, none), (19, none), (20, none), (21, none), (22, none), (23, none), (24, none), (25, none), (26, none), (27, none), (28, none), (29, none), (30, none), (31, none), (32, none), (33, none), (34, none), (35, none), (36, none), (37, none), (38, none), (39, none), (40, none), (41, none), (43, none), (42, some 44), (44, none), (45, none), (46, none), (47, none), (48, none), (49, none), (50, none), (51, none), (52, none), (53, none), (54, none), (55, none), (56, none), (57, none), (58, none), (59, none), (60, none), (61, none), (62, none), (63, none), (64, none), (65, none), (66, none), (67, none), (68, none), (69, none), (70, none), (71, none), (72, none), (73, none), (74, none), (75, none), (76, none), (78, none), (77, some 79), (79, none), (80, none), (81, none), (82, none), (83, none), (84, none), (85, none), (86, none), (87, none), (88, none), (89, none), (90, none), (91, none), (92, none), (93, none), (94, none), (95, none), (96, none), (97, none), (98, none), (99, none), (100, none)] mixed (by kernel_rfl) (by kernel_rfl) (fixR) (take1 (atS (atS (atS (atS (atS (atS (atS (atS (atS (atS at0)))))))))) (take1 (atS (atS (atS (atS (atS (atS (atS (atS (atS (atS at0)))))))))) (take1 (atS (atS (atS (atS (atS (atS (atS (atS (atS (atS at0)))))))))) take0))) <| w0 rfl rfl rfl (S0.move rfl) rfl <| w0 rfl rfl rfl (S0.cmp rfl rfl rfl) rfl <| w0 rfl rfl rfl (S0.move rfl) rfl <| ?_
  refine wcsTh (t := 95) rfl (rfl) ?_
  refine w0 rfl rfl rfl (S0.move rfl) rfl <| w0 rfl rfl rfl (S0.cmp rfl rfl rfl) rfl <| w0 rfl rfl rfl (S0.pickT rfl rfl) rfl <| w0 rfl rfl rfl (S0.move rfl) rfl <| ?_
  refine wcsTh (t := 99) rfl (rfl) ?_
  refine w0 rfl rfl rfl (S0.move rfl) rfl <| w0 rfl rfl rfl (S0.cmp rfl rfl rfl) rfl <| w0 rfl rfl rfl (S0.pickT rfl rfl) rfl <| w0 rfl rfl rfl (S0.move rfl) rfl <| ?_
  refine wcsTh (t := 103) rfl (rfl) ?_
  refine w0 rfl rfl rfl (S0.move rfl) rfl <| w0 rfl rfl rfl (S0.cmp rfl rfl rfl) rfl <| w0 rfl rfl rfl (S0.pickT rfl rfl) rfl <| w0 rfl rfl rfl (S0.move rfl) rfl <| ?_
  refine wcsTh (t := 107) rfl (rfl) ?_
  refine w0 rfl rfl rfl (S0.move rfl) rfl <| w0 rfl rfl rfl (S0.cmp rfl rfl rfl) rfl <| w0 rfl rfl rfl (S0.pickT rfl rfl) rfl <| w0 rfl rfl rfl (S0.move rfl) rfl <| ?_
  refine wcsTh (t := 111) rfl (rfl) ?_
  refine w0 rfl rfl rfl (S0.loadAL rfl) rfl <| w0 rfl rfl rfl (S0.loadAL rfl) rfl <| w0 rfl rfl rfl (S0.eqAg rfl rfl rfl rfl) rfl <| w0 rfl rfl rfl (S0.pickT rfl rfl) rfl <| w0 rfl rfl rfl (S0.move rfl) rfl <| ?_
  refine wcsTh (t := 116) rfl (rfl) ?_
  refine w0 rfl rfl rfl (S0.move rfl) rfl <| w0 rfl rfl rfl (S0.cmp rfl rfl rfl) rfl <| w0 rfl rfl rfl (S0.pickT rfl rfl) rfl <| w0 rfl rfl rfl (S0.move rfl) rfl <| ?_
  refine wcsTh (t := 120) rfl (rfl) ?_
  refine w0 rfl rfl rfl (S0.move rfl) rfl <| w0 rfl rfl rfl (S0.pickT rfl rfl) rfl <| w0 rfl rfl rfl (S0.move rfl) rfl <| ?_
  refine wcsTh (t := 123) rfl (rfl) ?_
  refine w0 rfl rfl rfl (S0.move rfl) rfl <| w0 rfl rfl rfl (S0.loadAL rfl) rfl <| wnv rfl rfl rfl rfl (S1.buildSlice rfl (qs := [(0, _)]) rfl rfl) rfl fun b126 => ?_
  refine wcd rfl rfl rfl rfl (S1.callF rfl (xequal_spec hms (row_ev ey) (by decide)) (take1 (atS (atS (atS (atS (atS (atS (atS (atS (atS at0))))))))) (take1 at0 take0))) rfl ?_
  refine w0 rfl rfl rfl (S0.pickT rfl rfl) rfl <| w0 rfl rfl rfl (S0.move rfl) rfl <| ?_
  refine wcsTh (t := 129) rfl ((by simp)) ?_
  refine w0 rfl rfl rfl (S0.move rfl) rfl <| w0 rfl rfl rfl (S0.cmp rfl rfl rfl) rfl <| w0 rfl rfl rfl (S0.pickT rfl rfl) rfl <| w0 rfl rfl rfl (S0.move rfl) rfl <| ?_
  refine wcsTh (t := 133) rfl ((by simp)) ?_
  refine w0 rfl rfl rfl (S0.move rfl) rfl <| w0 rfl rfl rfl (S0.loadAL rfl) rfl <| wwait rfl rfl rfl rfl (.inl rfl) (S1.buildSlice rfl (qs := [(0, _)]) rfl rfl) <| ?_
  refine wc rfl rfl rfl rfl (S1.callF rfl (list_spec hoc q2.sv.ok.w) (take1 (atS (atS (atS (atS (atS (atS (atS at0))))))) take0)) rfl ?_
  rintro lv1 _ ⟨lr1, hl1', rfl⟩
  refine wapp ?_
  refine wcome rfl rfl rfl rfl (S1.buildSlice rfl (qs := [(0, _)]) rfl rfl) fun b137 => ?_
  refine wcd rfl rfl rfl rfl (S1.callF rfl (xequal_spec hl1' (row_ev ex) (by decide)) (take1 (atS at0) (take1 at0 take0))) rfl ?_
  refine w0 rfl rfl rfl (S0.pickT rfl rfl) rfl <| w0 rfl rfl rfl (S0.move rfl) rfl <| ?_
  refine wcsTh (t := 140) rfl ((by simp)) ?_
  refine w0 rfl rfl rfl (S0.move rfl) rfl <| ?_
  refine wcd rfl rfl rfl rfl (S1.callF rfl (seq_spec hoc 1) (take1 (atS (atS at0)) take0)) rfl ?_
  refine w0 rfl rfl rfl (S0.cmp rfl rfl rfl) rfl <| w0 rfl rfl rfl (S0.pickT rfl rfl) rfl <| w0 rfl rfl rfl (S0.move rfl) rfl <| ?_
  refine wcsTh (t := 145) rfl (rfl) ?_
  refine w0 rfl rfl rfl (S0.move rfl) rfl <| w0 rfl rfl rfl (S0.cmp rfl rfl rfl) rfl <| w0 rfl rfl rfl (S0.pickT rfl rfl) rfl <| w0 rfl rfl rfl (S0.move rfl) rfl <| ?_
  refine wcsTh (t := 149) rfl (rfl) ?_
  refine w0 rfl rfl rfl (S0.move rfl) rfl <| w0 rfl rfl rfl (S0.not rfl) rfl <| w0 rfl rfl rfl (S0.pickT rfl rfl) rfl <| w0 rfl rfl rfl (S0.move rfl) rfl <| ?_
  refine wcsTh (t := 153) rfl (rfl) ?_
  refine w0 rfl rfl rfl (S0.move rfl) rfl <| ?_
  refine wcd rfl rfl rfl rfl (S1.callF rfl (count_spec hc8) (take1 (atS (atS (atS (atS (atS (atS (atS at0))))))) take0)) rfl ?_
  refine w0 rfl rfl rfl (S0.cmp rfl rfl rfl) rfl <| w0 rfl rfl rfl (S0.pickT rfl rfl) rfl <| w0 rfl rfl rfl (S0.move rfl) rfl <| ?_
  refine wcsTh (t := 158) rfl (rfl) ?_
  refine w0 rfl rfl rfl (S0.move rfl) rfl <| ?_
  refine wcd rfl rfl rfl rfl (S1.callF rfl (room_spec hc8 q6.sv.ok.w) (take1 at0 take0)) rfl ?_
  refine w0 rfl rfl rfl (S0.cmp rfl rfl rfl) rfl <| w0 rfl rfl rfl (S0.pickT rfl rfl) rfl <| w0 rfl rfl rfl (S0.move rfl) rfl <| ?_
  refine wcsTh (t := 163) rfl (rfl) ?_
  refine w0 rfl rfl rfl (S0.move rfl) rfl <| ?_
  refine wcd rfl rfl rfl rfl (S1.callF rfl (seq_spec hc8 1) (take1 at0 take0)) rfl ?_
  refine w0 rfl rfl rfl (S0.cmp rfl rfl rfl) rfl <| w0 rfl rfl rfl (S0.pickT rfl rfl) rfl <| w0 rfl rfl rfl (S0.move rfl) rfl <| ?_
  refine wcsTh (t := 168) rfl (rfl) ?_
  refine w0 rfl rfl rfl (S0.move rfl) rfl <| w0 rfl rfl rfl (S0.build rfl (qs := [(0, _), (1, _)]) rfl) rfl <| wwait rfl rfl rfl rfl (.inl rfl) (S1.buildSlice rfl (qs := [(0, _)]) rfl rfl) <| ?_
  refine wc rfl rfl rfl rfl (S1.callF rfl (bmarks_spec hc8 q6.sv.ok.w) (take1 at0 take0)) rfl ?_
  rintro mv2 _ ⟨mr2, hm2, rfl⟩
  refine wapp ?_
  refine wcome rfl rfl rfl rfl (S1.buildSlice rfl (qs := [(0, _)]) rfl rfl) fun b172 => ?_
  refine wcd rfl rfl rfl rfl (S1.callF rfl (requal_spec hm2 (row_mk (1, 7)) (by decide)) (take1 (atS at0) (take1 at0 take0))) rfl ?_
  refine w0 rfl rfl rfl (S0.pickT rfl rfl) rfl <| w0 rfl rfl rfl (S0.move rfl) rfl <| ?_
  refine wcsTh (t := 175) rfl ((by simp)) ?_
  refine w0 rfl rfl rfl (S0.move rfl) rfl <| w0 rfl rfl rfl (S0.cmp rfl rfl rfl) rfl <| w0 rfl rfl rfl (S0.pickT rfl rfl) rfl <| w0 rfl rfl rfl (S0.move rfl) rfl <| ?_
  refine wcsTh (t := 179) rfl ((by simp)) ?_
  refine w0 rfl rfl rfl (S0.move rfl) rfl <| ?_
  refine wc rfl rfl rfl rfl (S1.callF rfl (list_spec hc8 q6.sv.ok.w) (take1 (atS (atS at0)) take0)) rfl ?_
  rintro lv2 _ ⟨lr2, hl2', rfl⟩
  refine wapp ?_
  obtain ⟨la2, lc2', rfl, -, -⟩ := IsSl.elems (k := 4) evB_len hl2'
  refine w0 rfl rfl rfl (S0.lenSl rfl) rfl <| w0 rfl rfl rfl (S0.cmp rfl rfl rfl) rfl <| w0 rfl rfl rfl (S0.pickT rfl rfl) rfl <| w0 rfl rfl rfl (S0.move rfl) rfl <| ?_
  refine wcsTh (t := 185) rfl (rfl) ?_
  refine w0 rfl rfl rfl (S0.move rfl) rfl <| ?_
  refine wc rfl rfl rfl rfl (S1.callF rfl (list_spec hc8 q6.sv.ok.w) (take1 (atS at0) take0)) rfl ?_
  rintro lv3 _ ⟨lr3, hl3', rfl⟩
  refine wapp ?_
  obtain ⟨la3, lc3', rfl, -, hr3⟩ := IsSl.elems (k := 4) evB_len hl3'
  rcases hr3 with ⟨e, -⟩ | ⟨b9, sp9, rfl, rfl, hsp9⟩
  · cases e
  refine w0 rfl rfl rfl (S0.indexN (k := 5) (i := 0) rfl rfl (by decide)) rfl <| ?_
  refine w0 rfl rfl rfl (S0.fieldAddr rfl) rfl <| ?_
  refine w1 rfl rfl rfl rfl (S1.of0 (S0.load (v := .int .i64 2) rfl rfl)) rfl <| ?_
  refine w0 rfl rfl rfl (S0.cmp rfl rfl rfl) rfl <| w0 rfl rfl rfl (S0.pickT rfl rfl) rfl <| w0 rfl rfl rfl (S0.assign rfl) rfl <| wE <| WP.ret <| ?_
  refine Leaves.drop take0 ?_
  refine r1 rfl rfl ⟨?_, rfl⟩
  rfl
end Go.Proofs.YtjpjebfodhbdfaaGreatDoor
namespace Go.Proofs.YtjpjebfodhbdfaaGreatDoor
open Go
structure StB where
  i : Nat
  b : Ct
  G : Lg
  D : Dk
  bb : Nat
  lb : Nat
  rk : Nat
  rl : Nat
  cc : List Blk
  lc : List Blk
  dc : List Blk
  rcc : List Blk
  rlc : List Blk
  rdc : List Blk
theorem aftV_parts (b : Ct) (p : Int) : ∃ e q is, aftV b p = .tuple ⟨[.agg ⟨evB e⟩, .int .i64 q, .bool is]⟩ := by
  unfold aftV
  cases afterK b p with
  | none => exact ⟨_, _, _, rfl⟩
  | some x => exact ⟨_, _, _, rfl⟩
theorem min40 (n : Nat) : (if (40 : Int) < (n : Int) then 40 else (n : Int)) = ((min n 40 : Nat) : Int) := by split <;> omega
theorem op_ev (sp : List Value) {L : List OpB} {i : Nat} {x : OpB} (h : L[i]? = some x) : ((L.flatMap enO ++ sp).drop (i * 7 + 1)).take 5 = evB x.e := by
  have := flat_take enO_len sp L i x h
  have e : (((L.flatMap enO ++ sp).drop (i * 7)).take 7).take 6 = ((L.flatMap enO ++ sp).drop (i * 7)).take 6 := by rw [List.take_take]; rfl
  rw [← List.drop_drop, show 5 = 6 - 1 from rfl, ← List.drop_take, ← e, this]; rfl
set_option maxRecDepth 100000 in
set_option maxHeartbeats 4000000 in
theorem bookDoes_walk (W : World) (lv : Value) (hl : ArgF W opK lv) (mv : Value) (hm : ArgF W mkK mv) (q0 : Int) : FN Tryz.prog 3 [lv, mv, .int .i64 q0] [whole W] (fun v h => v = .bool true ∧ h = [whole W]) := by
  obtain ⟨l0, hrl⟩ := argOps hl
  obtain ⟨ml, hrm⟩ := argMks hm
  obtain ⟨mla, mlcap, rfl, hmlc, -⟩ := id hrm
  obtain ⟨-, -, hrm2⟩ := hrm.cutG 0 (min ml.length 40) (Nat.zero_le _) (Nat.min_le_left _ _)
  have hmll : ((ml.drop 0).take (min ml.length 40 - 0)).length ≤ 40 := by simp; omega
  have hll := cutOs_len l0
  have hlx := cutOs_mem (l := l0)
  refine FN.intro 198 [(0, lv), (1, .slice mla ml.length mlcap), (2, .int .i64 q0)] Tryz.func3 rfl (enters Tryz.func3 (by kernel_rfl) rfl) Tryz.ntmps3 rfl rfl ?_
  refine WP.seq <| WP.region <| v0 (S0.assign rfl) rfl <| vE <| WP.seq <| WP.region <| v0 (S0.move rfl) rfl <| ?_
  refine vc (S1.callF rfl (cut_spec hrl) (take1 at0 take0)) rfl ?_
  rintro _ _ ⟨row, hs, rfl⟩
  refine app ?_
  generalize cutOs l0 = M at hll hlx hs
  obtain ⟨ma, mcap, rfl, hmcap, hrow⟩ := IsSl.elems (k := 6) enO_len hs
  refine v0 (S0.assign rfl) rfl <| vE <| WP.seq <| WP.region <| v0 (S0.move rfl) rfl <| v0 (S0.move rfl) rfl <| v0 (S0.lenSl rfl) rfl <| v0 (S0.min2 rfl rfl rfl) rfl <| ?_
  rw [min40]
  refine v0 (S0.sliceG (i := 0) (j := min ml.length 40) rfl rfl rfl ⟨Nat.zero_le _, by omega⟩) rfl <| ?_
  generalize (ml.drop 0).take (min ml.length 40 - 0) = mk at hrm2 hmll
  generalize (Value.slice (if mlcap = 0 then mla else mla.map (·.add (0 * 2))) (min ml.length 40 - 0) (mlcap - 0)) = mv at hrm2 ⊢
  refine v0 (S0.assign rfl) rfl <| vE <| WP.seq <| WP.region <| ?_
  refine vc (S1.callF rfl (new_spec) take0) rfl ?_
  rintro _ _ ⟨db, dc0, rfl, hd0, rfl⟩
  refine app ?_
  refine v0 (S0.build rfl (qs := []) rfl) rfl <| vn (S1.box rfl rfl) rfl fun b30 => v0 (S0.assign rfl) rfl <| v0 (S0.assign rfl) rfl <| vE <| WP.seq <| WP.region <| v0 (S0.move rfl) rfl <| ?_
  refine vc (S1.callF rfl (bopen_good hd0 DkG.z (by simp) o0 (.inl rfl)) (take1 (atS at0) take0)) rfl ?_
  rintro _ _ ⟨bb0, lb0, cc0, lc0, dc1, hc0, hl0, hd1, rfl, rfl⟩
  refine app ?_
  refine v0 (S0.move rfl) rfl <| v0 (S0.extract rfl rfl) rfl <| v0 (S0.extract rfl rfl) rfl <| v0 (S0.assign rfl) rfl <| v0 (S0.assign rfl) rfl <| vE <| WP.seq <| WP.region <| v0 (S0.move rfl) rfl <| ?_
  have hx0 : IsRDk b30 dk0 [(b30, .cells ⟨[sv [], sv [], sv [], sv [], .slice none 0 0]⟩ 31 (0, 0))] := ⟨_, [], .nil, rfl⟩
  refine vc (S1.callF rfl (xbopen_good hx0 DkG.z (by simp) o0 (.inl rfl)) (take1 (atS (atS (atS at0))) take0)) rfl ?_
  rintro _ _ ⟨rk0, rl0, rcc0, rlc0, rdc0, hrc0, hrl0, hrd0, rfl, rfl⟩
  refine app ?_
  refine v0 (S0.move rfl) rfl <| v0 (S0.extract rfl rfl) rfl <| v0 (S0.extract rfl rfl) rfl <| v0 (S0.assign rfl) rfl <| v0 (S0.assign rfl) rfl <| vE <| WP.seq <| WP.seq <| WP.region <| v0 (S0.assign rfl) rfl <| vE <| WP.block <| ?_
  refine WP.loop (fun st : StB => st.i ≤ M.length ∧ IsCt st.bb st.lb st.b st.cc ∧ IsLog st.lb db st.G st.lc ∧ IsDisk db st.D st.dc ∧ IsRCt st.rk st.rl st.b st.rcc ∧ IsRLog st.rl b30 st.G st.rlc ∧ IsRDk b30 st.D st.rdc ∧ Good (fun _ => True) st.i st.b st.G st.D) (fun st : StB => [(1, mv), (2, .int .i64 q0), (7, .slice ma M.length mcap), (8, ptrB db), (9, ptrB b30), (10, ptrB st.bb), (11, .int .i64 0), (12, ptrB st.rk), (13, .int .i64 0), (14, .int .i64 (st.i : Int))]) (fun st : StB => [st.rcc, st.rlc, st.rdc, st.cc, st.lc, st.dc, row, whole W]) (fun st : StB => M.length - st.i) (StB.mk 0 ct0 g0 dk0 bb0 lb0 rk0 rl0 cc0 lc0 dc1 rcc0 rlc0 rdc0) (⟨Nat.zero_le _, hc0, hl0, hd1, hrc0, hrl0, hrd0, Good.z.mono (by simp) fun _ _ => trivial⟩) ⟨rfl, rfl, rfl, rfl, rfl, rfl, rfl, rfl, rfl, rfl, trivial⟩ ⟨_, (take1 at0 (take1 at0 (take1 at0 (take1 at0 (take1 at0 (take1 at0 (take1 at0 (take1 at0 take0))))))))⟩ (fun st hinv => ?_)
  obtain ⟨i, b, G, D, bb, lb, rk, rl, cc, lc, dc, rcc, rlc, rdc⟩ := st
  obtain ⟨hi, hc, hlg, hd, hrc, hrlg, hrd, hg⟩ := hinv
  dsimp only at hi hc hlg hd hrc hrlg hrd hg ⊢
  refine WP.seq <| WP.seq <| WP.region <| v0 (S0.move rfl) rfl <| v0 (S0.move rfl) rfl <| v0 (S0.lenSl rfl) rfl <| v0 (S0.cmp rfl rfl rfl) rfl <| vE <| ?_
  first | refine WP.condP rfl (fun h1 => ?_) (fun h1 => ?_) | refine WP.condN rfl (fun h1 => ?_) (fun h1 => ?_) | refine WP.cond rfl (fun h1 => ?_) (fun h1 => ?_)
  · have hlt : i < M.length := by omega
    rcases hrow with ⟨e, -⟩ | ⟨b1, sp1, rfl, rfl, hsp1⟩
    · rw [e] at hlt; simp at hlt
    have hx : M[i]? = some M[i] := by simp [hlt]
    have hxl := hlx _ (List.getElem_mem hlt)
    generalize M[i] = x at hx hxl
    have gk := flat_get enO_len sp1 M i 0 x hx (by decide)
    have gn := flat_get enO_len sp1 M i 6 x hx (by decide)
    have ge := op_ev sp1 hx
    have hro : Rooms b G D := hg.rooms (by omega)
    refine WP.skip <| WP.seq <| WP.block <| WP.seq <| WP.seq <| WP.region <| v0 (S0.move rfl) rfl <| v0 (S0.nilP rfl rfl rfl rfl) rfl <| v0 (S0.move rfl) rfl <| ?_
    refine csFh (t := 49) rfl ((by simp)) ?_
    refine gT rfl <| v0 (S0.move rfl) rfl <| gT rfl <| v0 (S0.nilP rfl rfl rfl rfl) rfl <| v0 (S0.pickF rfl rfl) rfl <| v0 (S0.move rfl) rfl <| ?_
    refine csFh (t := 53) rfl ((by simp)) ?_
    refine gT rfl <| v0 (S0.move rfl) rfl <| gT rfl <| v0 (S0.move rfl) rfl <| gT rfl <| v0 (S0.cmp rfl rfl rfl) rfl <| v0 (S0.pickF rfl rfl) rfl <| v0 (S0.move rfl) rfl <| ?_
    refine csFh (t := 58) rfl ((by simp)) ?_
    refine gT rfl <| v0 (S0.move rfl) rfl <| gT rfl <| v0 (S0.move rfl) rfl <| gT rfl <| v0 (S0.move rfl) rfl <| ?_
    refine gT rfl <| vcd (S1.callF rfl (sameB_spec hc hd hrc hrlg hrd hro.w hro.k.ok (by have := hro.W; omega)) (take1 (atS (atS (atS at0))) (take1 (atS (atS (atS (atS at0)))) (take1 at0 (take1 at0 (take1 at0 take0)))))) rfl ?_
    refine gT rfl <| v0 (S0.not rfl) rfl <| v0 (S0.pickF rfl rfl) rfl <| vE <| ?_
    refine WP.condFh rfl ((by simp)) ?_
    refine WP.skip <| WP.seq <| WP.region <| v0 (S0.move rfl) rfl <| v0 (S0.move rfl) rfl <| ?_
    refine v0 (S0.indexN (k := 7) rfl rfl hlt) rfl <| ?_
    refine v0 (S0.fieldAddr rfl) rfl <| ?_
    refine v0 (S0.load (v := .int .i64 x.k) rfl gk) rfl <| ?_
    refine vE <| WP.block <| WP.seq <| WP.region <| v0 (S0.cmp rfl rfl rfl) rfl <| v0 (S0.assign rfl) rfl <| vE <| ?_
    first | refine WP.condP rfl (fun k0 => ?_) (fun k0 => ?_) | refine WP.condN rfl (fun k0 => ?_) (fun k0 => ?_) | refine WP.cond rfl (fun k0 => ?_) (fun k0 => ?_)
    · have hq := hg.put (by omega) x.e (Q := fun _ => True) (fun _ _ => trivial) trivial
      refine WP.seq <| WP.drawP [(0, none), (1, none), (2, none), (3, none), (4, none), (5, none), (7, none), (8, none), (9, none), (10, none), (11, none), (12, none), (6, none), (13, none), (14, none)] mixed (by kernel_rfl) (by kernel_rfl) (by kernel_rfl) (take1 (atS (atS (atS (atS (atS (atS at0)))))) take0) <| w0 rfl rfl rfl (S0.move rfl) rfl <| w0 rfl rfl rfl (S0.move rfl) rfl <| w0 rfl rfl rfl (S0.move rfl) rfl <| ?_
      refine w0 rfl rfl rfl (S0.indexN (k := 7) rfl rfl hlt) rfl <| ?_
      refine w0 rfl rfl rfl (S0.fieldAddr rfl) rfl <| ?_
      refine w0 rfl rfl rfl (S0.loadA rfl ge rfl) rfl <| ?_
      refine w0 rfl rfl rfl (S0.move rfl) rfl <| w0 rfl rfl rfl (S0.move rfl) rfl <| w0 rfl rfl rfl (S0.move rfl) rfl <| ?_
      refine w0 rfl rfl rfl (S0.indexN (k := 7) rfl rfl hlt) rfl <| ?_
      refine w0 rfl rfl rfl (S0.fieldAddr rfl) rfl <| ?_
      refine w0 rfl rfl rfl (S0.loadA rfl ge rfl) rfl <| ?_
      refine wc rfl rfl rfl rfl (S1.callF rfl (bput_spec hro hc hlg hd (e := x.e) (by omega) (by omega)) (take1 at0 (take1 (atS (atS (atS (atS at0)))) (take1 at0 take0)))) rfl ?_
      rintro _ _ ⟨cc2, lc2, dc2, rfl, hc2, hl2, hd2, rfl⟩
      refine wapp ?_
      refine wc rfl rfl rfl rfl (S1.callF rfl (xput_spec hro hrc hrlg hrd (e := x.e) (by omega) (by omega)) (take1 (atS (atS (atS at0))) (take1 (atS (atS (atS at0))) (take1 (atS (atS (atS at0))) take0)))) rfl ?_
      rintro _ _ ⟨rcc2, rlc2, rdc2, rfl, hrc2, hrl2, hrd2, rfl⟩
      refine wapp ?_
      refine w0 rfl rfl rfl (S0.cmp rfl rfl rfl) rfl <| wE <| ?_
      refine WP.condFh rfl ((by simp)) ?_
      refine WP.skip <| WP.region <| v0 (S0.move rfl) rfl <| v0 (S0.ari rfl rfl rfl (wrap_i64 (by omega))) rfl <| v0 (S0.assign rfl) rfl <| vE <| ?_
      exact ⟨StB.mk (i + 1) (putBk b G D x.e).2.1 (putBk b G D x.e).2.2.1 (putBk b G D x.e).2.2.2 bb lb rk rl cc2 lc2 dc2 rcc2 rlc2 rdc2, (by first | exact ⟨hlt, hc2, hl2, hd2, hrc2, hrl2, hrd2, hq⟩ | (dsimp only; exact ⟨hlt, hc2, hl2, hd2, hrc2, hrl2, hrd2, hq⟩)), (show M.length - (i + 1) < M.length - i by omega), ⟨⟨rfl, rfl, rfl, rfl, rfl, rfl, rfl, rfl, rfl, rfl, trivial⟩, rfl, rfl⟩, ⟨_, (take1 (atS at0) (take1 (atS at0) (take1 (atS at0) (take1 (atS at0) (take1 (atS at0) (take1 (atS at0) (take1 at0 (take1 at0 take0))))))))⟩⟩
    · refine WP.seq <| WP.region <| v0 (S0.cmp rfl rfl rfl) rfl <| v0 (S0.assign rfl) rfl <| vE <| ?_
      first | refine WP.condP rfl (fun k1 => ?_) (fun k1 => ?_) | refine WP.condN rfl (fun k1 => ?_) (fun k1 => ?_) | refine WP.cond rfl (fun k1 => ?_) (fun k1 => ?_)
      · have hq := hg.tick (by omega) x.n (Q := fun _ => True) (fun _ _ => trivial) trivial
        refine WP.seq <| WP.drawP [(0, none), (1, none), (2, none), (3, none), (4, none), (5, none), (7, none), (8, none), (9, none), (10, none), (11, none), (12, none), (6, none), (13, none), (14, none)] mixed (by kernel_rfl) (by kernel_rfl) (by kernel_rfl) (take1 (atS (atS (atS (atS (atS (atS at0)))))) take0) <| w0 rfl rfl rfl (S0.move rfl) rfl <| w0 rfl rfl rfl (S0.move rfl) rfl <| w0 rfl rfl rfl (S0.move rfl) rfl <| ?_
        refine w0 rfl rfl rfl (S0.indexN (k := 7) rfl rfl hlt) rfl <| ?_
        refine w0 rfl rfl rfl (S0.fieldAddr rfl) rfl <| ?_
        refine w0 rfl rfl rfl (S0.load (v := .int .i64 x.n) rfl gn) rfl <| ?_
        refine w0 rfl rfl rfl (S0.move rfl) rfl <| w0 rfl rfl rfl (S0.move rfl) rfl <| w0 rfl rfl rfl (S0.move rfl) rfl <| ?_
        refine w0 rfl rfl rfl (S0.indexN (k := 7) rfl rfl hlt) rfl <| ?_
        refine w0 rfl rfl rfl (S0.fieldAddr rfl) rfl <| ?_
        refine w0 rfl rfl rfl (S0.load (v := .int .i64 x.n) rfl gn) rfl <| ?_
        refine wc rfl rfl rfl rfl (S1.callF rfl (btick_spec hro hc hlg hd x.n) (take1 at0 (take1 (atS (atS (atS (atS at0)))) (take1 at0 take0)))) rfl ?_
        rintro _ _ ⟨cc2, lc2, dc2, rfl, hc2, hl2, hd2, rfl⟩
        refine wapp ?_
        refine wc rfl rfl rfl rfl (S1.callF rfl (xtick_spec hro hrc hrlg hrd x.n) (take1 (atS (atS (atS at0))) (take1 (atS (atS (atS at0))) (take1 (atS (atS (atS at0))) take0)))) rfl ?_
        rintro _ _ ⟨rcc2, rlc2, rdc2, rfl, hrc2, hrl2, hrd2, rfl⟩
        refine wapp ?_
        refine w0 rfl rfl rfl (S0.cmp rfl rfl rfl) rfl <| wE <| ?_
        refine WP.condFh rfl ((by simp)) ?_
        refine WP.skip <| WP.region <| v0 (S0.move rfl) rfl <| v0 (S0.ari rfl rfl rfl (wrap_i64 (by omega))) rfl <| v0 (S0.assign rfl) rfl <| vE <| ?_
        exact ⟨StB.mk (i + 1) (tickBk b G D x.n).2.1 (tickBk b G D x.n).2.2.1 (tickBk b G D x.n).2.2.2 bb lb rk rl cc2 lc2 dc2 rcc2 rlc2 rdc2, (by first | exact ⟨hlt, hc2, hl2, hd2, hrc2, hrl2, hrd2, hq⟩ | (dsimp only; exact ⟨hlt, hc2, hl2, hd2, hrc2, hrl2, hrd2, hq⟩)), (show M.length - (i + 1) < M.length - i by omega), ⟨⟨rfl, rfl, rfl, rfl, rfl, rfl, rfl, rfl, rfl, rfl, trivial⟩, rfl, rfl⟩, ⟨_, (take1 (atS at0) (take1 (atS at0) (take1 (atS at0) (take1 (atS at0) (take1 (atS at0) (take1 (atS at0) (take1 at0 (take1 at0 take0))))))))⟩⟩
      · refine WP.seq <| WP.region <| v0 (S0.cmp rfl rfl rfl) rfl <| v0 (S0.assign rfl) rfl <| vE <| ?_
        first | refine WP.condP rfl (fun k2 => ?_) (fun k2 => ?_) | refine WP.condN rfl (fun k2 => ?_) (fun k2 => ?_) | refine WP.cond rfl (fun k2 => ?_) (fun k2 => ?_)
        · have hq := hg.sync.mono (N' := i + 1) (by omega) (Q := fun _ => True) (fun _ _ => trivial)
          refine WP.seq <| WP.region <| v0 (S0.move rfl) rfl <| ?_
          obtain ⟨v1, row1, v2, row2, v3, row3, g1, g2, g3, rfl⟩ := id hrc
          refine vc (S1.callF rfl (bsync_spec hc hlg hd) (take1 at0 (take1 (atS (atS (atS (atS at0)))) (take1 at0 take0)))) rfl ?_
          rintro _ _ ⟨lc2, dc2, hl2, hd2, rfl⟩
          refine app ?_
          refine vE <| WP.region <| v0 (S0.move rfl) rfl <| v0 (S0.nilCheck rfl) rfl <| v0 (S0.fieldAddr rfl) rfl <| v0 (S0.load rfl rfl) rfl <| ?_
          refine vc (S1.callF rfl (xsync_spec hrlg hrd hro.k.ok (by have := hro.W; omega)) (take1 (atS (atS (atS (atS at0)))) (take1 (atS (atS (atS (atS at0)))) take0))) rfl ?_
          rintro _ _ ⟨rlc2, rdc2, hrl2, hrd2, rfl⟩
          refine app ?_
          refine vE <| WP.region <| v0 (S0.move rfl) rfl <| v0 (S0.ari rfl rfl rfl (wrap_i64 (by omega))) rfl <| v0 (S0.assign rfl) rfl <| vE <| ?_
          exact ⟨StB.mk (i + 1) b (syncLg G) (syncK D) bb lb rk rl cc lc2 dc2 (rbB rk rl v1 v2 v3 (b.n : Int) :: (row1 ++ (row2 ++ row3))) rlc2 rdc2, (by first | exact ⟨hlt, hc, hl2, hd2, hrc, hrl2, hrd2, hq⟩ | (dsimp only; exact ⟨hlt, hc, hl2, hd2, hrc, hrl2, hrd2, hq⟩)), (show M.length - (i + 1) < M.length - i by omega), ⟨⟨rfl, rfl, rfl, rfl, rfl, rfl, rfl, rfl, rfl, rfl, trivial⟩, rfl, rfl⟩, ⟨_, (take1 (atS (atS (atS (atS (atS at0))))) (take1 at0 (take1 at0 (take1 at0 (take1 at0 (take1 at0 (take1 at0 (take1 at0 take0))))))))⟩⟩
        · obtain ⟨b', G', D', -, e1, -, e3, hq⟩ := hg.crash (by omega) x.n
          have hW := hro.W
          refine WP.seq <| WP.region <| v0 (S0.move rfl) rfl <| v0 (S0.move rfl) rfl <| v0 (S0.move rfl) rfl <| ?_
          refine v0 (S0.indexN (k := 7) rfl rfl hlt) rfl <| ?_
          refine v0 (S0.fieldAddr rfl) rfl <| ?_
          refine v0 (S0.load (v := .int .i64 x.n) rfl gn) rfl <| ?_
          refine vc (S1.callF rfl (crash_spec hd hro.k.ok (by omega) x.n) (take1 (atS at0) take0)) rfl ?_
          rintro _ _ ⟨dc2, hd2, rfl, rfl⟩
          refine app ?_
          refine vE <| WP.seq <| WP.region <| v0 (S0.move rfl) rfl <| v0 (S0.move rfl) rfl <| v0 (S0.move rfl) rfl <| ?_
          refine v0 (S0.indexN (k := 7) rfl rfl hlt) rfl <| ?_
          refine v0 (S0.fieldAddr rfl) rfl <| ?_
          refine v0 (S0.load (v := .int .i64 x.n) rfl gn) rfl <| ?_
          refine vc (S1.callF rfl (rcrash_spec hrd hro.k.ok (by omega) x.n) (take1 (atS (atS (atS (atS at0)))) take0)) rfl ?_
          rintro _ _ ⟨rdc2, hrd2, rfl, rfl⟩
          refine app ?_
          refine vE <| WP.seq <| WP.region <| v0 (S0.move rfl) rfl <| ?_
          refine vc (S1.callF rfl (bopen_good hd2 (hro.k.crash x.n) (by simp [crashK]) e1 e3) (take1 (atS at0) take0)) rfl ?_
          rintro _ _ ⟨bb2, lb2, cc3, lc3, dc3, hc3, hl3, hd3, rfl, rfl⟩
          refine app ?_
          refine v0 (S0.move rfl) rfl <| v0 (S0.extract rfl rfl) rfl <| v0 (S0.extract rfl rfl) rfl <| v0 (S0.assign rfl) rfl <| v0 (S0.assign rfl) rfl <| vE <| WP.region <| v0 (S0.move rfl) rfl <| ?_
          refine vc (S1.callF rfl (xbopen_good hrd2 (hro.k.crash x.n) (by simp [crashK]) e1 e3) (take1 (atS (atS (atS at0))) take0)) rfl ?_
          rintro _ _ ⟨rk2, rl2, rcc3, rlc3, rdc3, hrc3, hrl3, hrd3, rfl, rfl⟩
          refine app ?_
          refine v0 (S0.move rfl) rfl <| v0 (S0.extract rfl rfl) rfl <| v0 (S0.extract rfl rfl) rfl <| v0 (S0.assign rfl) rfl <| v0 (S0.assign rfl) rfl <| vE <| WP.region <| v0 (S0.move rfl) rfl <| v0 (S0.ari rfl rfl rfl (wrap_i64 (by omega))) rfl <| v0 (S0.assign rfl) rfl <| vE <| ?_
          exact ⟨StB.mk (i + 1) b' G' D' bb2 lb2 rk2 rl2 cc3 lc3 dc3 rcc3 rlc3 rdc3, (by first | exact ⟨hlt, hc3, hl3, hd3, hrc3, hrl3, hrd3, hq.mono (by omega) fun _ _ => trivial⟩ | (dsimp only; exact ⟨hlt, hc3, hl3, hd3, hrc3, hrl3, hrd3, hq.mono (by omega) fun _ _ => trivial⟩)), (show M.length - (i + 1) < M.length - i by omega), ⟨⟨rfl, rfl, rfl, rfl, rfl, rfl, rfl, rfl, rfl, rfl, trivial⟩, rfl, rfl⟩, ⟨_, (take1 at0 (take1 at0 (take1 at0 (take1 at0 (take1 at0 (take1 at0 (take1 (atS (atS (atS (atS at0)))) (take1 (atS (atS (atS (atS at0)))) take0))))))))⟩⟩
  · have hro : Rooms b G D := hg.rooms (by omega)
    refine WP.exit <| WP.seq <| WP.seq <| WP.region <| v0 (S0.move rfl) rfl <| v0 (S0.nilP rfl rfl rfl rfl) rfl <| v0 (S0.move rfl) rfl <| ?_
    refine csFh (t := 139) rfl ((by simp)) ?_
    refine gT rfl <| v0 (S0.move rfl) rfl <| gT rfl <| v0 (S0.nilP rfl rfl rfl rfl) rfl <| v0 (S0.pickF rfl rfl) rfl <| v0 (S0.move rfl) rfl <| ?_
    refine csFh (t := 143) rfl ((by simp)) ?_
    refine gT rfl <| v0 (S0.move rfl) rfl <| gT rfl <| v0 (S0.move rfl) rfl <| gT rfl <| v0 (S0.move rfl) rfl <| ?_
    refine gT rfl <| vcd (S1.callF rfl (sameB_spec hc hd hrc hrlg hrd hro.w hro.k.ok (by have := hro.W; omega)) (take1 (atS (atS (atS at0))) (take1 (atS (atS (atS (atS at0)))) (take1 at0 (take1 at0 (take1 at0 take0)))))) rfl ?_
    refine gT rfl <| v0 (S0.not rfl) rfl <| v0 (S0.pickF rfl rfl) rfl <| vE <| ?_
    refine WP.condFh rfl ((by simp)) ?_
    refine WP.skip <| WP.seq <| WP.region <| v0 (S0.move rfl) rfl <| v0 (S0.move rfl) rfl <| ?_
    obtain ⟨ae, aq, ais, haf⟩ := aftV_parts b q0
    have ha := bafter_spec hc hro.w q0
    have hxa := xafter_spec hrc hro.w q0
    rw [haf] at ha hxa
    refine vcd (S1.callF rfl (ha) (take1 at0 take0)) rfl ?_
    refine v0 (S0.move rfl) rfl <| v0 (S0.extract rfl rfl) rfl <| v0 (S0.extract rfl rfl) rfl <| v0 (S0.extract rfl rfl) rfl <| vn (S1.alloc) rfl fun b15 => vs (S1.storeA rfl rfl rfl) <| v0 (S0.assign rfl) rfl <| v0 (S0.assign rfl) rfl <| vE <| WP.seq <| WP.region <| v0 (S0.move rfl) rfl <| v0 (S0.move rfl) rfl <| ?_
    refine vcd (S1.callF rfl (hxa) (take1 (atS (atS (atS at0))) take0)) rfl ?_
    refine v0 (S0.move rfl) rfl <| v0 (S0.extract rfl rfl) rfl <| v0 (S0.extract rfl rfl) rfl <| v0 (S0.extract rfl rfl) rfl <| vn (S1.alloc) rfl fun b18 => vs (S1.storeA rfl rfl rfl) <| v0 (S0.assign rfl) rfl <| v0 (S0.assign rfl) rfl <| vE <| WP.seq <| WP.region <| v0 (S0.loadAL rfl) rfl <| v0 (S0.loadAL rfl) rfl <| v0 (S0.eqAg rfl rfl rfl rfl) rfl <| v0 (S0.move rfl) rfl <| ?_
    refine csTh (t := 167) rfl ((by simp)) ?_
    refine gT rfl <| v0 (S0.move rfl) rfl <| gT rfl <| v0 (S0.move rfl) rfl <| gT rfl <| v0 (S0.cmp rfl rfl rfl) rfl <| v0 (S0.pickT rfl rfl) rfl <| v0 (S0.move rfl) rfl <| ?_
    refine csTh (t := 172) rfl ((by simp)) ?_
    refine gT rfl <| v0 (S0.move rfl) rfl <| gT rfl <| v0 (S0.move rfl) rfl <| gT rfl <| v0 (S0.cmpB rfl rfl rfl) rfl <| v0 (S0.pickT rfl rfl) rfl <| v0 (S0.move rfl) rfl <| ?_
    refine csTh (t := 177) rfl ((by simp)) ?_
    refine gT rfl <| v0 (S0.move rfl) rfl <| gT rfl <| v0 (S0.move rfl) rfl <| ?_
    refine gT rfl <| vc (S1.callF rfl (bmissing_spec hc hro.w hrm2 (by omega)) (take1 (atS (atS (atS at0))) (take1 (atS (atS (atS (atS (atS (atS (atS (atS at0)))))))) take0))) rfl ?_
    rintro u1 _ ⟨q1, hs1, rfl⟩
    refine app ?_
    refine gT rfl <| v0 (S0.move rfl) rfl <| gT rfl <| v0 (S0.move rfl) rfl <| ?_
    refine gT rfl <| vc (S1.callF rfl (xmissing_spec hrc hro.w hrm2 (by omega)) (take1 (atS (atS (atS (atS at0)))) (take1 (atS (atS at0)) take0))) rfl ?_
    rintro u2 _ ⟨q2, hs2, rfl⟩
    refine app ?_
    have hml : (missK b mk).length ≤ 64 := by
      have := hro.w.len
      unfold missK
      exact Nat.le_trans (List.length_filter_le _ _) (by simp; omega)
    refine gT rfl <| vcd (S1.callF rfl (xequal_spec hs1 hs2 (by omega)) (take1 (atS (atS (atS at0))) (take1 at0 take0))) rfl ?_
    refine v0 (S0.pickT rfl rfl) rfl <| v0 (S0.move rfl) rfl <| ?_
    refine csTh (t := 186) rfl ((by simp)) ?_
    refine gT rfl <| v0 (S0.move rfl) rfl <| gT rfl <| v0 (S0.move rfl) rfl <| ?_
    refine gT rfl <| vcd (S1.callF rfl (seq_spec hc q0) (take1 (atS (atS (atS (atS at0)))) take0)) rfl ?_
    refine gT rfl <| v0 (S0.move rfl) rfl <| gT rfl <| v0 (S0.move rfl) rfl <| ?_
    refine gT rfl <| vcd (S1.callF rfl (xseq_spec hrc hro.w q0) (take1 (atS (atS (atS at0))) take0)) rfl ?_
    refine gT rfl <| v0 (S0.cmp rfl rfl rfl) rfl <| v0 (S0.pickT rfl rfl) rfl <| v0 (S0.move rfl) rfl <| ?_
    refine csTh (t := 195) rfl ((by simp)) ?_
    refine gT rfl <| vcd (S1.callF rfl (fixed_spec) take0) rfl ?_
    refine v0 (S0.pickT rfl rfl) rfl <| v0 (S0.assign rfl) rfl <| vE <| WP.ret <| ?_
    refine Leaves.drop (take1 (atS (atS (atS (atS at0)))) take0) ?_
    refine r1 rfl rfl ?_
    exact ⟨rfl, rfl⟩
end Go.Proofs.YtjpjebfodhbdfaaGreatDoor
namespace Go.Proofs.YtjpjebfodhbdfaaGreatDoor
open Go
def u8s (l : List Nat) : Array Value := (l.map fun (n : Nat) => Value.int .u8 n).toArray
def acceptZ : List Nat := [128, 191, 160, 191, 128, 159, 144, 191, 128, 143, 0, 0, 0, 0, 0, 0, 0, 0, 0, 0, 0, 0, 0, 0, 0, 0, 0, 0, 0, 0, 0, 0]
noncomputable def laidWorld (os : Os) : World :=
  let w0 := World.holding Tryz.prog os ⟨#[], #[], []⟩
  { w0 with heap := (w0.heap.modify 1 fun
      | .cells _ t frozen => .cells (u8s acceptZ) t frozen
      | o => o).modify 0 fun
      | .cells _ t frozen => .cells (u8s Go.Pinned.utf8FirstZ) t frozen
      | o => o }
abbrev laidList : List (String × DataW Unit) := [("unicode/utf8.acceptRanges", Rows.laid_unicode_utf8_acceptRanges), ("unicode/utf8.first", Rows.laid_unicode_utf8_first)]
set_option maxRecDepth 100000 in
theorem laidWorld_met (os : Os) (args : Array Value) : laidMetH Tryz.prog laidList ((laidWorld os).forCall (fun _ _ => 0) ⟨#[], args, []⟩).memory :=
  laidMetH_of_parts (laidMet_of_run' 100 (by kernel_rfl) (by kernel_rfl)) (by kernel_rfl)
end Go.Proofs.YtjpjebfodhbdfaaGreatDoor
