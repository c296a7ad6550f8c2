/- Several texts of this claim in one. -/
import Derived.Test.YtlmkgghpaaadhaaGreatDoorMC
import Derived.Deep.RegionHeld3
import Derived.Test.YtlmkgghpaaadhaaGreatDoorFind
import Derived.Deep.AppendLies
/- rel.Project: a relation cut to some variables. -/
set_option linter.unusedVariables false
set_option linter.unusedSimpArgs false
namespace Go.Proofs.YtlmkgghpaaadhaaGreatDoor.G
open Go.RowKit Go.Proofs.YtlmkgghpaaadhaaGreatDoorW.PrintWords Go.Proofs.YtlmkgghpaaadhaaGreatDoorW.PrintLast Go.Proofs.YtlmkgghpaaadhaaGreatDoorW.PrintMore

set_option maxHeartbeats 4000000 in
set_option maxRecDepth 100000 in
theorem project_any (A0 : Option Addr) (c0 : Nat) (sc : List Int) (A1 : Option Addr) (c1 : Nat) (rows : List (List Int)) (A2 : Option Addr) (c2 : Nat) (vars : List Int) (w : World) (hr0 : Kd.C KI w A0 sc.length sc) (hl0 : sc.length ≤ c0) (hr1 : Kd.C KL w A1 rows.length rows) (hr2 : Kd.C KI w A2 vars.length vars)
    (hm0 : sc.length ≤ 400000000) (hm1 : rows.length ≤ 1000000000) (hm2 : vars.length ≤ 400000000) :
    Calls Tryz.prog 73 #[.agg #[.slice A0 sc.length c0, .slice A1 rows.length c1], .slice A2 vars.length c2] w fun e w' => ∃ v, e = .returned v ∧ RelM w' w.heap.size v (projRel sc rows vars) ∧ Below w.heap.size w w' := by
  have HR := Aside0.mk (And.intro hr0 (And.intro hr1 hr2))
  clear hr0 hr1 hr2
  obtain ⟨W0, hW0⟩ : ∃ W0, (w.alloc (.cells #[.slice A0 sc.length c0, .slice A1 rows.length c1] 31)).alloc (.cells #[.slice none 0 0, .slice none 0 0] 31) = W0 := ⟨_, rfl⟩
  have hb0 : Below w.heap.size w W0 := by rw [← hW0]; exact below_alloc (below_alloc (Below.refl _ _) _) _
  have hX0 : W0.heap[w.heap.size + 1]? = some (.cells #[.slice none 0 0, .slice none 0 0] 31 (0, 0)) := by rw [← hW0]; have := heap_alloc_new (w.alloc (.cells #[.slice A0 sc.length c0, .slice A1 rows.length c1] 31)) (.cells #[.slice none 0 0, .slice none 0 0] 31); rwa [World.size_alloc] at this
  have hY0 : W0.heap[w.heap.size]? = some (.cells #[.slice A0 sc.length c0, .slice A1 rows.length c1] 31 (0, 0)) := by rw [← hW0]; exact (Below.heap_alloc _ _ _ (by simp)).trans (heap_alloc_new w _)
  have HL0 := Aside0.mk (And.intro hb0 (And.intro hX0 hY0))
  have hsz := (Array.getElem?_eq_some_iff.1 hX0).1
  clear hb0 hX0 hY0
  go_enter Tryz.func73, Tryz.ntmps73
  go_wp2_with (first
    | (go_at_call 97; refine (values_any _ ⟨_, _, _, rfl⟩ _).mono ?_; rintro e w1 ⟨rfl, hb1, hs1, hc1⟩; have HB1 := Aside0.mk hb1; have hso := sorted_values A2 c2 vars W0.heap.size w1 hs1 hc1 (Kd.C_below (Kd.C_below HR.out.2.2 HL0.out.1) hb1) (by omega); clear hb1 hs1 hc1)
    | (go_at_call 96; refine hso.mono ?_; rintro e w2 ⟨v2, rfl, hv2, hb2⟩; have hcomp := compactI_any w1.heap.size v2 (sortI vars) w2 hv2 (by rw [sortI_len]; omega); obtain ⟨A3, c3, rfl, _, _⟩ := Kd.R_reads hv2; have HB2 := Aside0.mk hb2; clear hso hv2 hb2)
    | (go_at_call 95; refine hcomp.mono ?_; rintro e w3 ⟨v3, rfl, hv3, hb3⟩; obtain ⟨A4, c4, rfl, hl4, hr4⟩ := Kd.R_reads hv3; have HV3 := Aside0.mk (And.intro hl4 hr4);
       have hb4 := below_then HB1.out HB1.out.size (HB2.out.trans hb3); have hy3 := (hb4.block _ (by omega)).trans HL0.out.2.2; have hx3 := (hb4.block _ hsz).trans HL0.out.2.1;
       have HL3 := Aside0.mk (And.intro (below_then HL0.out.1 HL0.out.1.size hb4) (And.intro hx3 hy3)); clear hcomp hv3 hb3 hl4 hr4 hb4 hx3 hy3))
  have q0 := blk2_c0 HL3.out.2.2
  have q1 := blk2_c1 HL3.out.2.2
  clear hW0 hsz HL0 HB1 HB2
  have hD := below_drew (Below.refl w3.heap.size w3)
  have HD3 := Aside0.mk (And.intro (below_drew HL3.out.1) (And.intro ((hD.block _ (Array.getElem?_eq_some_iff.1 HL3.out.2.1).1).trans HL3.out.2.1) ((hD.block _ (Array.getElem?_eq_some_iff.1 HL3.out.2.2).1).trans HL3.out.2.2)))
  have HVD := Aside0.mk (And.intro HV3.out.1 (Kd.C_below HV3.out.2 hD))
  have hul := uniqI_len vars
  have hol : (onto sc vars).length ≤ 1000000000 := by have := merge_len false true false sc (uniqI vars); unfold onto; omega
  clear hD
  go_region_held3 (fun W => W.cell? ⟨w.heap.size, 0, none⟩ = some (.slice A0 sc.length c0) ∧ W.cell? ⟨w.heap.size, 1, none⟩ = some (.slice A1 rows.length c1)) (first | exact ⟨q2, q3⟩ | exact ⟨q4, q5⟩ | exact ⟨q6, q7⟩ | go_keep) (first
    | (go_at_call 87; refine (tuple_Meet_any A0 c0 sc A4 c4 (uniqI vars) _ (Kd.C_below HR.out.1 HD3.out.1) hl0 HVD.out.2 HVD.out.1 (by omega)).mono ?_; rintro e w4 ⟨v4, rfl, hv4, hb4⟩; obtain ⟨A5, c5, rfl, hl5, hr5⟩ := Kd.R_reads hv4; have hx4 := (hb4.block _ (Array.getElem?_eq_some_iff.1 HD3.out.2.1).1).trans HD3.out.2.1; have hy4 := (hb4.block _ (Array.getElem?_eq_some_iff.1 HD3.out.2.2).1).trans HD3.out.2.2;
       have HL4 := Aside0.mk (And.intro (below_then HD3.out.1 HD3.out.1.size hb4) (And.intro hx4 (And.intro hy4 hr5))); have q2 := blk2_c0 hy4; have q3 := blk2_c1 hy4; clear hv4 hb4 hl5 hr5 hx4 hy4)
    | (go_at_call 98; refine (cut_any A0 c0 sc A1 c1 rows A5 c5 (onto sc vars) _ (Kd.C_below HR.out.1 HL4.out.1) (Kd.C_below HR.out.2.1 HL4.out.1) HL4.out.2.2.2 hm1 hol).mono ?_; rintro e w5 ⟨v5, rfl, hv5, hb5⟩; have hx5 := (hb5.block _ (Array.getElem?_eq_some_iff.1 HL4.out.2.1).1).trans HL4.out.2.1; have hy5 := (hb5.block _ (Array.getElem?_eq_some_iff.1 HL4.out.2.2.1).1).trans HL4.out.2.2.1; have q4 := blk2_c0 hy5; have q5 := blk2_c1 hy5;
       obtain ⟨s0, s1, rfl, h0, h1⟩ := hv5; obtain ⟨A6, c6, rfl, _, _⟩ := Kd.R_reads h0; obtain ⟨A7, c7, rfl, _, _⟩ := Kd.N_reads h1; have HM := Aside0.mk (show RelM w5 w4.heap.size (.agg #[.slice A6 _ c6, .slice A7 _ c7]) (projRel sc rows vars) from ⟨_, _, rfl, h0, h1⟩);
       have p0 := blk2_c0 hx5; have p1 := blk_fr (i := 0) hx5; have hs0 := blk2_s0 hx5 (.slice A6 (onto sc vars).length c6); have p2 := blk2_c1 hs0; have p3 := blk_fr (i := 1) hs0; have hs1 := blk2_s1 hs0 (.slice A7 (cutRows sc rows (onto sc vars)).length c7);
       have hu0 := (Below.heap_setCell w5 ⟨w.heap.size + 1, 0, none⟩ (.slice A6 (onto sc vars).length c6) w.heap.size (by simp)).trans hy5; have hu1 := (Below.heap_setCell _ ⟨w.heap.size + 1, 1, none⟩ (.slice A7 (cutRows sc rows (onto sc vars)).length c7) w.heap.size (by simp)).trans hu0; have q6 := blk2_c0 hu1; have q7 := blk2_c1 hu1;
       have HS1 := Aside0.mk hs1; have HB5 := Aside0.mk hb5; clear hs0 hs1 hb5 hx5 hy5 h0 h1 hu0 hu1))
  have q8 := blk2_c0 HS1.out
  have q9 := blk2_c1 HS1.out
  go_wp2
  refine bodyPost_ret (v := .agg #[.slice A6 (onto sc vars).length c6, .slice A7 (cutRows sc rows (onto sc vars)).length c7]) (by simp [results, Tryz.results73, go_sem, q8, q9]) rfl ?_
  have hlt : w.heap.size + 1 < w4.heap.size := (Array.getElem?_eq_some_iff.1 HL4.out.2.1).1
  refine ⟨_, rfl, RelM.lower (((HM.out.far (p := ⟨w.heap.size + 1, 0, none⟩) hlt _).far (p := ⟨w.heap.size + 1, 1, none⟩) hlt _)) (by omega), ?_⟩
  have h1 := below_then HL4.out.1 HL4.out.1.size HB5.out
  exact (h1.setCell (p := ⟨w.heap.size + 1, 0, none⟩) (Nat.le_succ _) _).setCell (p := ⟨w.heap.size + 1, 1, none⟩) (Nat.le_succ _) _
end Go.Proofs.YtlmkgghpaaadhaaGreatDoor.G

/- rel.Union: the rows of both. slices.Concat of two. -/
set_option linter.unusedVariables false
set_option linter.unusedSimpArgs false
namespace Go.Proofs.YtlmkgghpaaadhaaGreatDoor.G
open Go.RowKit Go.Proofs.YtlmkgghpaaadhaaGreatDoorW.PrintWords Go.Proofs.YtlmkgghpaaadhaaGreatDoorW.PrintLast Go.Proofs.YtlmkgghpaaadhaaGreatDoorW.PrintMore

theorem heap_KL : Kd.Heap KL := Kd.heap_slice _ (Kd.heap_int _)
end Go.Proofs.YtlmkgghpaaadhaaGreatDoor.G

set_option linter.unusedVariables false
set_option linter.unusedSimpArgs false
namespace Go.Proofs.YtlmkgghpaaadhaaGreatDoor.G
open Go.RowKit Go.Proofs.YtlmkgghpaaadhaaGreatDoorW.PrintWords Go.Proofs.YtlmkgghpaaadhaaGreatDoorW.PrintLast Go.Proofs.YtlmkgghpaaadhaaGreatDoorW.PrintMore

/-- What stays through Union: the two arguments' boxes, and a box for the answer. -/
structure UnInv (w : World) (a0 a1 b0 b1 : Value) (W : World) : Prop where
  bel : Below w.heap.size w W
  A : W.heap[w.heap.size]? = some (.cells #[a0, a1] 31 (0, 0))
  B : W.heap[w.heap.size + 1]? = some (.cells #[b0, b1] 31 (0, 0))
  C : ∃ x y, W.heap[w.heap.size + 1 + 1]? = some (.cells #[x, y] 31 (0, 0))
theorem UnInv.step {w W W1 : World} {a0 a1 b0 b1 : Value} (h : UnInv w a0 a1 b0 b1 W) (hb : Below W.heap.size W W1) : UnInv w a0 a1 b0 b1 W1 :=
  ⟨below_then h.bel h.bel.size hb, (hb.block _ (Array.getElem?_eq_some_iff.1 h.A).1).trans h.A, (hb.block _ (Array.getElem?_eq_some_iff.1 h.B).1).trans h.B, by
    obtain ⟨x, y, hc⟩ := h.C
    exact ⟨x, y, (hb.block _ (Array.getElem?_eq_some_iff.1 hc).1).trans hc⟩⟩
theorem UnInv.all {w W : World} {a0 a1 b0 b1 : Value} (h : UnInv w a0 a1 b0 b1 W) : W.cell? ⟨w.heap.size, 0, none⟩ = some a0 ∧ W.cell? ⟨w.heap.size, 1, none⟩ = some a1 ∧ W.cell? ⟨w.heap.size + 1, 0, none⟩ = some b0 ∧ W.cell? ⟨w.heap.size + 1, 1, none⟩ = some b1 ∧ UnInv w a0 a1 b0 b1 W :=
  ⟨blk2_c0 h.A, blk2_c1 h.A, blk2_c0 h.B, blk2_c1 h.B, h⟩
theorem UnInv.set {w W : World} {a0 a1 b0 b1 : Value} (h : UnInv w a0 a1 b0 b1 W) (i : Nat) (u : Value) : UnInv w a0 a1 b0 b1 (W.setCell ⟨w.heap.size + 1 + 1, i, none⟩ u) :=
  ⟨h.bel.setCell (p := ⟨w.heap.size + 1 + 1, i, none⟩) (show w.heap.size ≤ w.heap.size + 1 + 1 by omega) u, (Below.heap_setCell _ _ _ _ (by simp; omega)).trans h.A, (Below.heap_setCell _ _ _ _ (by simp)).trans h.B, by
    obtain ⟨x, y, hc⟩ := h.C
    have h1 := blk_set1 hc i u
    match i with
    | 0 => exact ⟨u, y, h1⟩
    | 1 => exact ⟨x, u, h1⟩
    | k + 2 => exact ⟨x, y, h1⟩⟩
theorem UnInv.start (w : World) (a0 a1 b0 b1 x y : Value) : UnInv w a0 a1 b0 b1 (((w.alloc (.cells #[a0, a1] 31)).alloc (.cells #[b0, b1] 31)).alloc (.cells #[x, y] 31)) := by
  have h1 := heap_alloc_new w (.cells #[a0, a1] 31)
  have h2 := heap_alloc_new (w.alloc (.cells #[a0, a1] 31)) (.cells #[b0, b1] 31)
  have h3 := heap_alloc_new ((w.alloc (.cells #[a0, a1] 31)).alloc (.cells #[b0, b1] 31)) (.cells #[x, y] 31)
  simp only [World.size_alloc] at h2 h3
  exact ⟨below_alloc (below_alloc (below_alloc (Below.refl _ _) _) _) _, (Below.heap_alloc _ _ _ (by simp; omega)).trans ((Below.heap_alloc _ _ _ (by simp)).trans h1), (Below.heap_alloc _ _ _ (by simp)).trans h2, x, y, h3⟩

theorem UnInv.of {w W : World} {a0 a1 b0 b1 : Value} (h : W.cell? ⟨w.heap.size, 0, none⟩ = some a0 ∧ W.cell? ⟨w.heap.size, 1, none⟩ = some a1 ∧ W.cell? ⟨w.heap.size + 1, 0, none⟩ = some b0 ∧ W.cell? ⟨w.heap.size + 1, 1, none⟩ = some b1 ∧ UnInv w a0 a1 b0 b1 W) : UnInv w a0 a1 b0 b1 W := h.2.2.2.2

end Go.Proofs.YtlmkgghpaaadhaaGreatDoor.G

/- rel.Same and rel.Has. -/
set_option linter.unusedVariables false
set_option linter.unusedSimpArgs false
namespace Go.Proofs.YtlmkgghpaaadhaaGreatDoor.G
open Go.RowKit Go.Proofs.YtlmkgghpaaadhaaGreatDoorW.PrintWords Go.Proofs.YtlmkgghpaaadhaaGreatDoorW.PrintLast Go.Proofs.YtlmkgghpaaadhaaGreatDoorW.PrintMore

end Go.Proofs.YtlmkgghpaaadhaaGreatDoor.G

/- rel.Select: the rows that have a value. -/
set_option linter.unusedVariables false
set_option linter.unusedSimpArgs false
namespace Go.Proofs.YtlmkgghpaaadhaaGreatDoor.G
open Go.RowKit Go.Proofs.YtlmkgghpaaadhaaGreatDoorW.PrintWords Go.Proofs.YtlmkgghpaaadhaaGreatDoorW.PrintLast Go.Proofs.YtlmkgghpaaadhaaGreatDoorW.PrintMore

/-- What stays through Select: the argument's box, and a box for the answer. -/
structure SelInv (w : World) (a0 a1 : Value) (W : World) : Prop where
  bel : Below w.heap.size w W
  A : W.heap[w.heap.size]? = some (.cells #[a0, a1] 31 (0, 0))
  C : W.heap[w.heap.size + 1]? = some (.cells #[.slice none 0 0, .slice none 0 0] 31 (0, 0))
theorem SelInv.step {w W W1 : World} {a0 a1 : Value} (h : SelInv w a0 a1 W) (hb : Below W.heap.size W W1) : SelInv w a0 a1 W1 :=
  ⟨below_then h.bel h.bel.size hb, (hb.block _ (Array.getElem?_eq_some_iff.1 h.A).1).trans h.A, (hb.block _ (Array.getElem?_eq_some_iff.1 h.C).1).trans h.C⟩
theorem SelInv.all {w W : World} {a0 a1 : Value} (h : SelInv w a0 a1 W) : W.cell? ⟨w.heap.size, 0, none⟩ = some a0 ∧ SelInv w a0 a1 W := ⟨blk2_c0 h.A, h⟩
theorem SelInv.set {w W : World} {a0 a1 : Value} (h : SelInv w a0 a1 W) (g i : Nat) (hg : w.heap.size + 1 < g) (u : Value) : SelInv w a0 a1 (W.setCell ⟨g, i, none⟩ u) :=
  ⟨h.bel.setCell (p := ⟨g, i, none⟩) (show w.heap.size ≤ g by omega) u, (Below.heap_setCell _ _ _ _ (by simp; omega)).trans h.A, (Below.heap_setCell _ _ _ _ (by simp; omega)).trans h.C⟩
theorem SelInv.start (w : World) (a0 a1 : Value) : SelInv w a0 a1 ((w.alloc (.cells #[a0, a1] 31)).alloc (.cells #[.slice none 0 0, .slice none 0 0] 31)) := by
  have h1 := heap_alloc_new w (.cells #[a0, a1] 31)
  have h2 := heap_alloc_new (w.alloc (.cells #[a0, a1] 31)) (.cells #[.slice none 0 0, .slice none 0 0] 31)
  simp only [World.size_alloc] at h2
  exact ⟨below_alloc (below_alloc (Below.refl _ _) _) _, (Below.heap_alloc _ _ _ (by simp)).trans h1, h2⟩

/-- Between two rounds: the answer's box in block g, its rows apart from it. -/
structure SelOut (w : World) (a0 a1 : Value) (g : Nat) (s0 : Value) (sc : List Int) (s1 : Value) (xs : List (List Int)) (W : World) : Prop where
  inv : SelInv w a0 a1 W
  lt : w.heap.size + 1 < g
  blk : W.heap[g]? = some (.cells #[s0, s1] 31 (0, 0))
  row : Kd.R KI 3 W (w.heap.size + 2) AnyB s0 sc
  rows : Kd.N KL 22 W (w.heap.size + 2) (fun k => w.heap.size + 2 ≤ k ∧ k ≠ g) s1 xs
theorem R_apart {W w1 : World} {base : Nat} {s0 u : Value} {sc : List Int} (h : Kd.R KI 3 W base AnyB s0 sc) (hg : W.grownBy w1 u.ownBlock) (ht : ∀ k, u.ownBlock = some k → ∃ cells, W.heap[k]? = some (.cells cells 22 (0, 0))) : Kd.R KI 3 w1 base AnyB s0 sc := by
  cases hu : u.ownBlock with
  | none => rw [hu] at hg; exact Kd.R_grown h hg (fun k _ e => by cases e)
  | some b =>
    obtain ⟨cells, hc⟩ := ht b hu
    rw [hu] at hg
    exact Kd.R_mono (Kd.R_grown (Kd.R_types h hc (int_ty _ (by decide))) hg (fun k hk e => hk.2 (Option.some.inj e))) (fun _ hk => hk.1)
theorem SelOut.at1 {w W W4 w1 : World} {a0 a1 : Value} {g : Nat} {s0 s1 : Value} {sc : List Int} {xs : List (List Int)} (h : SelOut w a0 a1 g s0 sc s1 xs W) (hb : Below W.heap.size W W4) (hg : W4.grownBy w1 s1.ownBlock) : w1.heap[g]? = some (.cells #[s0, s1] 31 (0, 0)) := by
  have hgl := (Array.getElem?_eq_some_iff.1 h.blk).1
  exact (hg.block g (Nat.lt_of_lt_of_le hgl hb.size) (Kd.N_away h.rows (fun k hk => hk.2))).trans ((hb.block g hgl).trans h.blk)
theorem SelOut.push {w W W4 w1 : World} {a0 a1 : Value} {g : Nat} {s0 s1 v1 : Value} {sc : List Int} {xs ys : List (List Int)} (h : SelOut w a0 a1 g s0 sc s1 xs W) (hb : Below W.heap.size W W4) (hg : W4.grownBy w1 s1.ownBlock)
    (hN : Kd.N KL 22 w1 (w.heap.size + 2) (fun k => w.heap.size + 2 ≤ k ∧ k ≠ g) v1 ys) : SelOut w a0 a1 g s0 sc v1 ys (w1.setCell ⟨g, 1, none⟩ v1) := by
  have hi4 := h.inv.step hb
  have hal := (Array.getElem?_eq_some_iff.1 hi4.A).1
  have hcl := (Array.getElem?_eq_some_iff.1 hi4.C).1
  have hne : ∀ k, k < w.heap.size + 2 → some k ≠ s1.ownBlock := fun k hk e => by have := Kd.N_base h.rows k e.symm; omega
  have hbl : Below w.heap.size w w1 := hi4.bel.grown hg hi4.bel.size (fun k e => by have := Kd.N_base h.rows k e; omega)
  have hi1 : SelInv w a0 a1 w1 := ⟨hbl, (hg.block _ hal (hne _ (by omega))).trans hi4.A, (hg.block _ hcl (hne _ (by omega))).trans hi4.C⟩
  have hb1 := h.at1 hb hg
  have hr1 : Kd.R KI 3 w1 (w.heap.size + 2) AnyB s0 sc := R_apart (Kd.R_below h.row hb) hg (fun k e => by
    obtain ⟨cells, hc⟩ := Kd.N_typed (Kd.N_below h.rows hb) k e
    exact ⟨cells, hc⟩)
  exact ⟨hi1.set g 1 h.lt v1, h.lt, blk2_s1 hb1 v1, Kd.R_set hr1 hb1 (int_ty _ (by decide)) 1 v1, Kd.N_far hN (p := ⟨g, 1, none⟩) (fun k hk => hk.2) v1⟩

end Go.Proofs.YtlmkgghpaaadhaaGreatDoor.G

/- rel.Values: those that a variable has; rel.Unit. -/
set_option linter.unusedVariables false
set_option linter.unusedSimpArgs false
namespace Go.Proofs.YtlmkgghpaaadhaaGreatDoor.G
open Go.RowKit Go.Proofs.YtlmkgghpaaadhaaGreatDoorW.PrintWords Go.Proofs.YtlmkgghpaaadhaaGreatDoorW.PrintLast Go.Proofs.YtlmkgghpaaadhaaGreatDoorW.PrintMore

/-- A row that is written out. -/
theorem lit_row (w : World) (xs : List Int) (base : Nat) (hb : base ≤ w.heap.size) (hm : xs.length ≤ 1000000000) : Kd.R KI 3 (w.alloc (.cells (xs.map (Value.int .i64)).toArray 3)) base AnyB (.slice (some ⟨w.heap.size, 0, none⟩) xs.length xs.length) xs :=
  IntsAt.row (cur := (xs.map (Value.int .i64)).toArray) ⟨heap_alloc_new w _, by simp, fun j hj => by simp [hj, rd_get xs j hj]⟩ hb hm

end Go.Proofs.YtlmkgghpaaadhaaGreatDoor.G

/- rel.Right, rel.Unit. -/
set_option linter.unusedVariables false
set_option linter.unusedSimpArgs false
namespace Go.Proofs.YtlmkgghpaaadhaaGreatDoor.G
open Go.RowKit Go.Proofs.YtlmkgghpaaadhaaGreatDoorW.PrintWords Go.Proofs.YtlmkgghpaaadhaaGreatDoorW.PrintLast Go.Proofs.YtlmkgghpaaadhaaGreatDoorW.PrintMore

end Go.Proofs.YtlmkgghpaaadhaaGreatDoor.G

/- rel.Make: a relation of rows in any order. -/
set_option linter.unusedVariables false
set_option linter.unusedSimpArgs false
namespace Go.Proofs.YtlmkgghpaaadhaaGreatDoor.G
open Go.RowKit Go.Proofs.YtlmkgghpaaadhaaGreatDoorW.PrintWords Go.Proofs.YtlmkgghpaaadhaaGreatDoorW.PrintLast Go.Proofs.YtlmkgghpaaadhaaGreatDoorW.PrintMore

end Go.Proofs.YtlmkgghpaaadhaaGreatDoor.G

/- The law's shown: a small case that must work. -/
set_option linter.unusedVariables false
set_option linter.unusedSimpArgs false
namespace Go.Proofs.YtlmkgghpaaadhaaGreatDoor.G
open Go.RowKit Go.Proofs.YtlmkgghpaaadhaaGreatDoorW.PrintWords Go.Proofs.YtlmkgghpaaadhaaGreatDoorW.PrintLast Go.Proofs.YtlmkgghpaaadhaaGreatDoorW.PrintMore

/-- What stays in shown: the first relation's box (block g), and what it leads to. -/
structure ShInv (w w1 : World) (A1 : Option Addr) (c1 : Nat) (A2 : Option Addr) (c2 g : Nat) (W : World) : Prop where
  bel : Below w.heap.size w W
  blk : W.heap[g]? = some (.cells #[.slice A1 2 c1, .slice A2 1 c2] 31 (0, 0))
  row : Kd.C KI W A1 2 [0, 2]
  rows : Kd.C KL W A2 1 [[1, 5]]
theorem ShInv.step {w w1 W W1 : World} {A1 A2 : Option Addr} {c1 c2 g : Nat} (h : ShInv w w1 A1 c1 A2 c2 g W) (hb : Below W.heap.size W W1) : ShInv w w1 A1 c1 A2 c2 g W1 :=
  ⟨below_then h.bel h.bel.size hb, (hb.block _ (Array.getElem?_eq_some_iff.1 h.blk).1).trans h.blk, Kd.C_below h.row hb, Kd.C_below h.rows hb⟩

end Go.Proofs.YtlmkgghpaaadhaaGreatDoor.G
