/- The package join at right relations: Join, Semijoin, Agree, All; literals. -/
import Derived.Test.YtnmonjincnlhiaaDoorJoin
import Derived.Test.YtnmonjincnlhiaaDoorBox
set_option linter.unusedVariables false
set_option linter.unusedSimpArgs false
namespace Go.Proofs.YtnmonjincnlhiaaDoor.G
open Go.RowKit Go.Proofs.YtnmonjincnlhiaaDoorW.PrintWords Go.Proofs.YtnmonjincnlhiaaDoorW.PrintLast Go.Proofs.YtnmonjincnlhiaaDoorW.PrintMore Go.Proofs.YtnmonjincnlhiaaDoor.PRefs

/-- A right relation of some size. -/
structure Rt (sc : List Int) (L : List (List Int)) : Prop where
  r : RightP sc L
  s : sc.length ≤ 10000000
  l : L.length ≤ 20000
  i : InR L
theorem Rt.x {sc : List Int} {L : List (List Int)} (h : Rt sc L) : ∀ x ∈ L, x.length ≤ 100000000 := fun x hx => by rw [h.r.2.1 x hx]; have := h.s; omega
def joinAt (sa : List Int) (La : List (List Int)) (sb : List Int) (Lb : List (List Int)) (most : Int) : List Int × List (List Int) := if ((joinRows sa La sb Lb).length : Int) ≤ most then (uni sa sb, joinRows sa La sb Lb) else ([], [])
def joinEr (sa : List Int) (La : List (List Int)) (sb : List Int) (Lb : List (List Int)) (most : Int) : Int := if ((joinRows sa La sb Lb).length : Int) ≤ most then 0 else 9

section
variable {w : World} {A : Option Addr} {c : Nat} {sc : List Int} {A' : Option Addr} {c' : Nat} {L : List (List Int)} {B : Option Addr} {d : Nat} {sd : List Int} {B' : Option Addr} {d' : Nat} {M : List (List Int)}
theorem join_rt (h : RelRd w A c sc A' c' L) (ht : Rt sc L) (h' : RelRd w B d sd B' d' M) (ht' : Rt sd M) (most : Int) (htab : Tab w) {r : List Int × List (List Int)} {n : Int} (hr : joinAt sc L sd M most = r) (hn : joinEr sc L sd M most = n) :
    Calls Tryd.prog 14 #[.agg #[.slice A sc.length c, .slice A' L.length c'], .agg #[.slice B sd.length d, .slice B' M.length d'], .int .i64 most] w fun e w' => RelOk w w' e r.1 r.2 n := by
  have h1 := ht.s
  have h2 := ht'.s
  have h3 := ht.l
  have h4 := ht'.l
  refine (join_any A c sc A' c' L B d sd B' d' M most w h.row h.cap h.rows h'.row h'.cap h'.rows (by omega) (by omega) (by omega) (by omega) ht.x ht'.x ht.i ht'.i htab).mono ?_
  rintro e w' ⟨v, rfl, hv, hb⟩
  have e1 : joinTo sc L sd M most = r := by rw [← hr, joinTo, joinAt, raw_len ht.r ht'.r, raw_sort ht.r ht'.r]
  have e2 : joinErr sc L sd M most = n := by rw [← hn, joinErr, joinEr, raw_len ht.r ht'.r]
  rw [e1] at hv
  rw [e2]
  obtain ⟨A, c, A', c', rfl, h⟩ := hv.rd
  exact ⟨A, c, A', c', rfl, h, hb⟩
theorem semi_rt (h : RelRd w A c sc A' c' L) (ht : Rt sc L) (h' : RelRd w B d sd B' d' M) (ht' : Rt sd M) (htab : Tab w) {R : List (List Int)} (hr : semiRows sc L sd M = R) :
    Calls Tryd.prog 13 #[.agg #[.slice A sc.length c, .slice A' L.length c'], .agg #[.slice B sd.length d, .slice B' M.length d']] w fun e w' => RelTo w w' e sc R := by
  have h1 := ht.s
  have h2 := ht'.s
  have h3 := ht.l
  have h4 := ht'.l
  refine (semi_any A c sc A' c' L B d sd B' d' M w h.row h.cap h.rows h'.row h'.cap h'.rows (by omega) (by omega) (by omega) (by omega) (fun x hx => by have := ht.x x hx; omega) ht.i ht'.i htab).mono ?_
  rintro e w' ⟨v, rfl, hv, hb⟩
  rw [semi_eq ht.r ht'.r, hr] at hv
  obtain ⟨A, c, A', c', rfl, h⟩ := hv.rd
  exact ⟨A, c, A', c', rfl, h, hb⟩
theorem project_rt {A2 : Option Addr} {c2 : Nat} {vars : List Int} (h : RelRd w A c sc A' c' L) (ht : Rt sc L) (hr2 : Kd.C KI w A2 vars.length vars) (hm2 : vars.length ≤ 10000000) {r : List Int × List (List Int)} (hP : projRel sc L vars = r) :
    Calls Tryd.prog 16 #[.agg #[.slice A sc.length c, .slice A' L.length c'], .slice A2 vars.length c2] w fun e w' => RelTo w w' e r.1 r.2 := by
  have h1 := ht.s
  have h2 := ht.l
  refine (project_any A c sc A' c' L A2 c2 vars w h.row h.cap h.rows hr2 (by omega) (by omega) (by omega)).mono ?_
  rintro e w' ⟨v, rfl, hv, hb⟩
  rw [hP] at hv
  obtain ⟨A, c, A', c', rfl, h⟩ := hv.rd
  exact ⟨A, c, A', c', rfl, h, hb⟩
theorem same_rt (h : RelRd w A c sc A' c' L) (hl : L.length ≤ 1000000000) (h' : RelRd w B d sd B' d' M) (b : Bool) (hb : decide (sc = sd ∧ L = M) = b) :
    Calls Tryd.prog 15 #[.agg #[.slice A sc.length c, .slice A' L.length c'], .agg #[.slice B sd.length d, .slice B' M.length d']] w fun e w' => e = .returned (.bool b) ∧ Below w.heap.size w w' :=
  same_any A c sc A' c' L B d sd B' d' M w h.row h.rows h'.row h'.rows hl b hb
theorem unit_rt (w : World) : Calls Tryd.prog 23 #[] w fun e w' => RelTo w w' e [] [[]] := by
  refine (unit_any w).mono ?_
  rintro e w' ⟨v, rfl, hv, hb⟩
  obtain ⟨A, c, A', c', rfl, h⟩ := hv.rd
  exact ⟨A, c, A', c', rfl, h, hb⟩

set_option maxHeartbeats 4000000 in
set_option maxRecDepth 100000 in
theorem agree_rt (h : RelRd w A c sc A' c' L) (ht : Rt sc L) (h' : RelRd w B d sd B' d' M) (ht' : Rt sd M) (b : Bool) (hb : decide (projRel sc L sd = projRel sd M sc) = b) :
    Calls Tryd.prog 17 #[.agg #[.slice A sc.length c, .slice A' L.length c'], .agg #[.slice B sd.length d, .slice B' M.length d']] w fun e w' => e = .returned (.bool b) ∧ Below w.heap.size w w' := by
  have HR := Aside0.mk (And.intro h h')
  have HB := Aside0.mk (show ∀ (x y : List Int × List (List Int)), projRel sc L sd = x → projRel sd M sc = y → decide (x.1 = y.1 ∧ x.2 = y.2) = b from fun x y hx hy => by
    rw [← hb, hx, hy, decide_eq_decide]; exact Prod.ext_iff.symm)
  have hs := ht.s
  have hs' := ht'.s
  have hle : (projRel sc L sd).2.length ≤ 20000 := Nat.le_trans (cutRows_len _ _ _) ht.l
  have HT := Aside0.mk (And.intro ht ht')
  clear h h' hb ht ht'
  obtain ⟨⟨P1, P2⟩, hP⟩ : ∃ r, projRel sc L sd = r := ⟨_, rfl⟩
  obtain ⟨⟨Q1, Q2⟩, hQ⟩ : ∃ r, projRel sd M sc = r := ⟨_, rfl⟩
  rw [hP] at hle
  have HPQ := Aside0.mk (And.intro hP (And.intro hQ (HB.out _ _ hP hQ)))
  clear hP hQ HB
  obtain ⟨W0, hW0⟩ : ∃ W0, (w.alloc (.cells #[.slice A sc.length c, .slice A' L.length c'] 27)).alloc (.cells #[.slice B sd.length d, .slice B' M.length d'] 27) = W0 := ⟨_, rfl⟩
  have hbe : Below w.heap.size w W0 := by rw [← hW0]; exact below_alloc (below_alloc (Below.refl _ _) _) _
  have hk0 : W0.heap[w.heap.size]? = some (.cells #[.slice A sc.length c, .slice A' L.length c'] 27 (0, 0)) := by
    rw [← hW0]; exact (Below.heap_alloc _ _ _ (by simp)).trans (heap_alloc_new w _)
  have hk1 : W0.heap[w.heap.size + 1]? = some (.cells #[.slice B sd.length d, .slice B' M.length d'] 27 (0, 0)) := by
    rw [← hW0]
    have := heap_alloc_new (w.alloc (.cells #[.slice A sc.length c, .slice A' L.length c'] 27)) (.cells #[.slice B sd.length d, .slice B' M.length d'] 27)
    rwa [World.size_alloc] at this
  have HB0 := Aside0.mk hbe
  have r0 := blk2_c0 hk0
  have r1 := blk2_c1 hk0
  have r2 := blk2_c0 hk1
  have r3 := blk2_c1 hk1
  have hS := S4.start r0 r1 r2 r3
  have HSD := Aside0.mk (S4.step hS (below_drew (Below.refl _ _)))
  clear hk0 hk1 hbe
  go_enter Tryd.func17, Tryd.ntmps17
  go_wp2
  clear hW0
  go_region_held3 (fun W => W.cell? ⟨w.heap.size, 0, none⟩ = some (.slice A sc.length c) ∧ W.cell? ⟨w.heap.size, 1, none⟩ = some (.slice A' L.length c') ∧ W.cell? ⟨w.heap.size + 1, 0, none⟩ = some (.slice B sd.length d) ∧ W.cell? ⟨w.heap.size + 1, 1, none⟩ = some (.slice B' M.length d') ∧ Below W0.heap.size W0 W)
      (first | with_reducible exact HS4A.out | with_reducible exact HS3A.out | with_reducible exact HS2A.out | with_reducible exact S4.step (by assumption) (below_alloc (Below.refl _ _) _) | with_reducible exact S4.step (by assumption) (below_drew (Below.refl _ _)))
      (first
        | (have hgd := HS3A; clear hgd; go_at_call 15; refine (same_rt (H2.out.step hb3') (by omega) H3.out b HPQ.out.2.2).mono ?_; rintro e w4 ⟨rfl, hb4⟩; have hS4 := S4.step (by assumption) hb4; have HS4A := Aside0.mk hS4; clear hS4 hb4)
        | (have hgd := HS2A; clear hgd; go_at_call 16; refine (project_rt ((HR.out.2.step HB0.out).step (S4.of (by assumption))) HT.out.2 ((HR.out.1.step HB0.out).step (S4.of (by assumption))).row (by omega) HPQ.out.2.1).mono ?_; rintro e w3 ⟨A3, c3, D3, d3, rfl, hr3, hb3⟩; have hS3 := S4.step (by assumption) hb3; have HS3A := Aside0.mk hS3; have H3 := Aside0.mk hr3; have hb3' : Below w2.heap.size w2 w3 := (by first | exact hb3 | exact below_then (below_drew (Below.refl _ _)) (Nat.le_refl _) hb3); clear hS3 hr3 hb3)
        | (go_at_call 16; refine (project_rt ((HR.out.1.step HB0.out).step (S4.of (by assumption))) HT.out.1 ((HR.out.2.step HB0.out).step (S4.of (by assumption))).row (by omega) HPQ.out.1).mono ?_; rintro e w2 ⟨A2, c2, D2, d2, rfl, hr2, hb2⟩; have hS2 := S4.step (by assumption) hb2; have HS2A := Aside0.mk hS2; have H2 := Aside0.mk hr2; clear hS2 hr2 hb2))
  all_goals
    go_wp2
    go_ret
    exact ⟨rfl, below_then HB0.out HB0.out.size (S4.of HS4A.out)⟩
end

/-! literals -/
theorem lit_ints (w : World) (xs : List Int) (hm : xs.length ≤ 1000000000) : Kd.C KI (w.alloc (.cells (xs.map (Value.int .i64)).toArray 3)) (some ⟨w.heap.size, 0, none⟩) xs.length xs := by
  obtain ⟨A, c, e, _, h⟩ := Kd.R_reads (lit_row w xs 0 (Nat.zero_le _) hm)
  injection e with e
  rw [e]; exact h
theorem lit_rows1 {w : World} {A : Option Addr} {c : Nat} {xs : List Int} (h : Kd.C KI w A xs.length xs) (hc : xs.length ≤ c) : Kd.C KL (w.alloc (.cells #[.slice A xs.length c] 22)) (some ⟨w.heap.size, 0, none⟩) 1 [xs] := by
  refine ⟨rfl, by omega, fun _ => ⟨_, rfl, fun j p hj => ?_⟩⟩
  match j, hj with
  | 0, hj =>
    obtain rfl : xs = p := by simpa using hj
    refine ⟨[.slice A xs.length c], rfl, ⟨A, c, rfl, hc, Kd.C_below h (below_alloc (Below.refl _ _) _)⟩, fun i u hu => ?_⟩
    match i, hu with
    | 0, hu =>
      obtain rfl : Value.slice A xs.length c = u := by simpa using hu
      show World.cell? _ (Addr.add ⟨w.heap.size, 0, none⟩ 0) = _
      rw [show Addr.add ⟨w.heap.size, 0, none⟩ 0 = ⟨w.heap.size, 0, none⟩ by simp [Addr.add], cell_of_row _ w.heap.size _ _ _ _ (heap_alloc_new w _)]
      rfl
theorem lit_rows2 {w : World} {A B : Option Addr} {c d : Nat} {xs ys : List Int} (h : Kd.C KI w A xs.length xs) (hc : xs.length ≤ c) (h' : Kd.C KI w B ys.length ys) (hd : ys.length ≤ d) :
    Kd.C KL (w.alloc (.cells #[.slice A xs.length c, .slice B ys.length d] 22)) (some ⟨w.heap.size, 0, none⟩) 2 [xs, ys] := by
  refine ⟨rfl, by omega, fun _ => ⟨_, rfl, fun j p hj => ?_⟩⟩
  match j, hj with
  | 0, hj =>
    obtain rfl : xs = p := by simpa using hj
    refine ⟨[.slice A xs.length c], rfl, ⟨A, c, rfl, hc, Kd.C_below h (below_alloc (Below.refl _ _) _)⟩, fun i u hu => ?_⟩
    match i, hu with
    | 0, hu =>
      obtain rfl : Value.slice A xs.length c = u := by simpa using hu
      show World.cell? _ (Addr.add ⟨w.heap.size, 0, none⟩ 0) = _
      rw [show Addr.add ⟨w.heap.size, 0, none⟩ 0 = ⟨w.heap.size, 0, none⟩ by simp [Addr.add], cell_of_row _ w.heap.size _ _ _ _ (heap_alloc_new w _)]
      rfl
  | 1, hj =>
    obtain rfl : ys = p := by simpa using hj
    refine ⟨[.slice B ys.length d], rfl, ⟨B, d, rfl, hd, Kd.C_below h' (below_alloc (Below.refl _ _) _)⟩, fun i u hu => ?_⟩
    match i, hu with
    | 0, hu =>
      obtain rfl : Value.slice B ys.length d = u := by simpa using hu
      show World.cell? _ (Addr.add ⟨w.heap.size, 0, none⟩ 1) = _
      rw [show Addr.add ⟨w.heap.size, 0, none⟩ 1 = ⟨w.heap.size, 1, none⟩ by simp [Addr.add], cell_of_row _ w.heap.size _ _ _ _ (heap_alloc_new w _)]
      rfl
end Go.Proofs.YtnmonjincnlhiaaDoor.G
