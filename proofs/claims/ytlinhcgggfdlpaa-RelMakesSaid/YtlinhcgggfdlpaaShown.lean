/- The law's shown: a small case that must work. -/
import Derived.Test.YtlinhcgggfdlpaaVals
import Derived.Test.YtlinhcgggfdlpaaRight
import Derived.Test.YtlinhcgggfdlpaaMake
set_option linter.unusedVariables false
set_option linter.unusedSimpArgs false
namespace Go.Proofs.Ytlinhcgggfdlpaa.G
open Go.RowKit Go.Proofs.YtlinhcgggfdlpaaW.PrintWords Go.Proofs.YtlinhcgggfdlpaaW.PrintLast Go.Proofs.YtlinhcgggfdlpaaW.PrintMore

theorem s20 : sortI [2, 0] = [0, 2] := by simp [sortI, List.mergeSort, List.MergeSort.Internal.splitInTwo]
theorem s11 : sortI [1, 1] = [1, 1] := by simp [sortI, List.mergeSort, List.MergeSort.Internal.splitInTwo]
theorem ok20 : okMake [2, 0] [[5, 1], [5, 1]] = true := by rw [okMake, s20]; decide
theorem ok11 : okMake [1, 1] [] = false := by rw [okMake, s11]; decide
theorem mr20 : makeRel [2, 0] [[5, 1], [5, 1]] = ([0, 2], [[1, 5]]) := by rw [makeRel, ok20, s20]; rfl
theorem me20 : makeErr [2, 0] [[5, 1], [5, 1]] = 0 := by rw [makeErr, ok20]; rfl
theorem mr11 : makeRel [1, 1] [] = ([], []) := by rw [makeRel, ok11]; rfl
theorem me11 : makeErr [1, 1] [] = 1 := by rw [makeErr, ok11]; rfl

theorem mk1_any (A0 : Option Addr) (c0 : Nat) (A1 : Option Addr) (c1 : Nat) (W : World) (h0 : Kd.C KI W A0 2 [2, 0]) (h1 : Kd.C KL W A1 2 [[5, 1], [5, 1]]) :
    Calls Try.prog 14 #[.slice A0 2 c0, .slice A1 2 c1] W fun e w' => ∃ A c A' c', e = .returned (.tuple #[.agg #[.slice A 2 c, .slice A' 1 c'], .int .i64 0]) ∧ Kd.C KI w' A 2 [0, 2] ∧ Kd.C KL w' A' 1 [[1, 5]] ∧ Below W.heap.size W w' := by
  refine (make_any A0 c0 [2, 0] A1 c1 [[5, 1], [5, 1]] W h0 h1 (by simp) (by simp)).mono ?_
  rintro e w' ⟨v, rfl, hv, hb⟩
  rw [mr20] at hv
  obtain ⟨A, c, A', c', rfl, _, _, hA, hA'⟩ := hv.reads
  exact ⟨A, c, A', c', by rw [me20]; rfl, hA, hA', hb⟩
theorem mk2_any (A0 : Option Addr) (c0 : Nat) (W : World) (h0 : Kd.C KI W A0 2 [1, 1]) :
    Calls Try.prog 14 #[.slice A0 2 c0, .slice none 0 0] W fun e w' => ∃ A c A' c', e = .returned (.tuple #[.agg #[.slice A 0 c, .slice A' 0 c'], .int .i64 1]) ∧ Below W.heap.size W w' := by
  refine (make_any A0 c0 [1, 1] none 0 [] W h0 (Kd.C_nil _ _) (by simp) (by simp)).mono ?_
  rintro e w' ⟨v, rfl, hv, hb⟩
  rw [mr11] at hv
  obtain ⟨A, c, A', c', rfl, _, _, hA, hA'⟩ := hv.reads
  exact ⟨A, c, A', c', by rw [me11]; rfl, hb⟩
theorem un1_any (W : World) : Calls Try.prog 33 #[] W fun e w' => ∃ A c A' c', e = .returned (.agg #[.slice A 0 c, .slice A' 1 c']) ∧ Below W.heap.size W w' := by
  refine (unit_any W).mono ?_
  rintro e w' ⟨v, rfl, hv, hb⟩
  obtain ⟨A, c, A', c', rfl, _, _, hA, hA'⟩ := hv.reads
  exact ⟨A, c, A', c', rfl, hb⟩

/-- A row of two numbers, written out. -/
theorem lit2 (w : World) (x y : Int) : Kd.C KI (w.alloc (.cells #[.int .i64 x, .int .i64 y] 3)) (some ⟨w.heap.size, 0, none⟩) 2 [x, y] := by
  obtain ⟨A, c, e, _, h⟩ := Kd.R_reads (lit_row w [x, y] 0 (Nat.zero_le _) (by simp))
  injection e with e
  rw [e]; exact h
theorem lit22 (w : World) (x y x' y' : Int) : Kd.C KL (((w.alloc (.cells #[.int .i64 x, .int .i64 y] 3)).alloc (.cells #[.int .i64 x', .int .i64 y'] 3)).alloc (.cells #[.slice (some ⟨w.heap.size, 0, none⟩) 2 2, .slice (some ⟨w.heap.size + 1, 0, none⟩) 2 2] 22))
    (some ⟨w.heap.size + 1 + 1, 0, none⟩) 2 [[x, y], [x', y']] := by
  have h1 := lit_row w [x, y] w.heap.size (Nat.le_refl _) (by simp)
  have h2 := lit_row (w.alloc (.cells #[.int .i64 x, .int .i64 y] 3)) [x', y'] w.heap.size (by simp) (by simp)
  have k1 := Kd.R_mono (ok' := fun k => w.heap.size ≤ k ∧ k ≠ w.heap.size + 1 + 1) (Kd.R_bound h1) (fun k hk => ⟨hk.2.1, by have := hk.2.2.1; simp at this; omega⟩)
  have k2 := Kd.R_mono (ok' := fun k => w.heap.size ≤ k ∧ k ≠ w.heap.size + 1 + 1) (Kd.R_bound h2) (fun k hk => ⟨hk.2.1, by have := hk.2.2.1; simp at this; omega⟩)
  have h1' := Kd.R_below (Kd.R_below k1 (below_alloc (Below.refl _ _) (.cells #[.int .i64 x', .int .i64 y'] 3))) (below_alloc (Below.refl _ _) (.cells #[.slice (some ⟨w.heap.size, 0, none⟩) 2 2, .slice (some ⟨w.heap.size + 1, 0, none⟩) 2 2] 22))
  have h2' := Kd.R_below k2 (below_alloc (Below.refl _ _) (.cells #[.slice (some ⟨w.heap.size, 0, none⟩) 2 2, .slice (some ⟨w.heap.size + 1, 0, none⟩) 2 2] 22))
  have hb := heap_alloc_new ((w.alloc (.cells #[.int .i64 x, .int .i64 y] 3)).alloc (.cells #[.int .i64 x', .int .i64 y'] 3)) (.cells #[.slice (some ⟨w.heap.size, 0, none⟩) 2 2, .slice (some ⟨w.heap.size + 1, 0, none⟩) 2 2] 22)
  rw [World.size_alloc] at hb h2'
  rw [World.size_alloc] at hb
  have hA : RowsAt (((w.alloc (.cells #[.int .i64 x, .int .i64 y] 3)).alloc (.cells #[.int .i64 x', .int .i64 y'] 3)).alloc (.cells #[.slice (some ⟨w.heap.size, 0, none⟩) 2 2, .slice (some ⟨w.heap.size + 1, 0, none⟩) 2 2] 22)) w.heap.size (w.heap.size + 1 + 1) #[.slice (some ⟨w.heap.size, 0, none⟩) 2 2, .slice (some ⟨w.heap.size + 1, 0, none⟩) 2 2] [[x, y], [x', y']] :=
    ⟨hb, by simp, fun j hj => by
      match j, hj with
      | 0, _ => exact Kd.FK_of_M (base := w.heap.size) ⟨_, rfl, h1'⟩
      | 1, _ => exact Kd.FK_of_M (base := w.heap.size) ⟨_, rfl, h2'⟩⟩
  exact (Kd.N_reads' (RowsAt_N hA (by omega) (by simp [maxLen]))).2.2

/-- What stays in shown: the first relation's box (block g), and what it leads to. -/
structure ShInv (w w1 : World) (A1 : Option Addr) (c1 : Nat) (A2 : Option Addr) (c2 g : Nat) (W : World) : Prop where
  bel : Below w.heap.size w W
  blk : W.heap[g]? = some (.cells #[.slice A1 2 c1, .slice A2 1 c2] 25 (0, 0))
  row : Kd.C KI W A1 2 [0, 2]
  rows : Kd.C KL W A2 1 [[1, 5]]
theorem ShInv.step {w w1 W W1 : World} {A1 A2 : Option Addr} {c1 c2 g : Nat} (h : ShInv w w1 A1 c1 A2 c2 g W) (hb : Below W.heap.size W W1) : ShInv w w1 A1 c1 A2 c2 g W1 :=
  ⟨below_then h.bel h.bel.size hb, (hb.block _ (Array.getElem?_eq_some_iff.1 h.blk).1).trans h.blk, Kd.C_below h.row hb, Kd.C_below h.rows hb⟩

theorem right_is (A0 : Option Addr) (c0 : Nat) (sc : List Int) (A1 : Option Addr) (c1 : Nat) (rows : List (List Int)) (w : World) (hr0 : Kd.C KI w A0 sc.length sc) (hr1 : Kd.C KL w A1 rows.length rows) (hm : rows.length ≤ 1000000000) (b : Bool) (hb : decide (RightP sc rows) = b) :
    Calls Try.prog 17 #[.agg #[.slice A0 sc.length c0, .slice A1 rows.length c1]] w fun e w' => e = .returned (.bool b) ∧ Below w.heap.size w w' := by
  subst hb; exact right_any A0 c0 sc A1 c1 rows w hr0 hr1 hm

set_option maxHeartbeats 4000000 in
set_option maxRecDepth 100000 in
theorem shown_any (w : World) : Calls Try.prog 12 #[] w fun e w' => e = .returned (.bool true) ∧ Below w.heap.size w w' := by
  have hs1 := heap_alloc_new w (.cells #[.int .i64 2, .int .i64 0] 3)
  have hA := lit2 w 2 0
  have hB := lit22 (w.alloc (.cells #[.int .i64 2, .int .i64 0] 3)) 5 1 5 1
  have hC := Kd.C_below (Kd.C_below (Kd.C_below hA (below_alloc (Below.refl _ _) (.cells #[.int .i64 5, .int .i64 1] 3))) (below_alloc (Below.refl _ _) (.cells #[.int .i64 5, .int .i64 1] 3))) (below_alloc (Below.refl _ _) (.cells #[.slice (some ⟨w.heap.size + 1, 0, none⟩) 2 2, .slice (some ⟨w.heap.size + 1 + 1, 0, none⟩) 2 2] 22))
  have hb0 : Below w.heap.size w _ := below_alloc (below_alloc (below_alloc (below_alloc (Below.refl w.heap.size w) (.cells #[.int .i64 2, .int .i64 0] 3)) (.cells #[.int .i64 5, .int .i64 1] 3)) (.cells #[.int .i64 5, .int .i64 1] 3)) (.cells #[.slice (some ⟨w.heap.size + 1, 0, none⟩) 2 2, .slice (some ⟨w.heap.size + 1 + 1, 0, none⟩) 2 2] 22)
  simp only [World.size_alloc] at hB
  have HM := Aside0.mk (And.intro hb0 (mk1_any _ 2 _ 2 _ hC hB))
  clear hs1 hA hB hC hb0
  go_enter Try.func12, Try.ntmps12
  go_wp2_with (first
    | (go_at_call 14; refine HM.out.2.mono ?_; rintro e w1 ⟨A1, c1, A2, c2, rfl, h1, h2, hb1⟩; have HI1 := Aside0.mk (show ShInv w w1 A1 c1 A2 c2 w1.heap.size (w1.alloc (.cells #[.slice A1 2 c1, .slice A2 1 c2] 25)) from ⟨(below_then HM.out.1 HM.out.1.size hb1).alloc (below_then HM.out.1 HM.out.1.size hb1).size _, heap_alloc_new w1 _, Kd.C_below h1 (below_alloc (Below.refl _ _) _), Kd.C_below h2 (below_alloc (Below.refl _ _) _)⟩); clear HM h1 h2 hb1)
    | (go_at_call 14; refine (mk2_any _ 2 _ (by have h := lit2 (w1.alloc (.cells #[.slice A1 2 c1, .slice A2 1 c2] 25)) 1 1; rwa [World.size_alloc] at h)).mono ?_; rintro e w2 ⟨A3, c3, A4, c4, rfl, hb2⟩; have HI2 := Aside0.mk ((HI1.out.step (below_alloc (Below.refl _ _) _)).step hb2); clear HI1 hb2)
    | (go_at_call 33; refine (un1_any _).mono ?_; rintro e w3 ⟨A5, c5, A6, c6, rfl, hb3⟩; have HI3 := Aside0.mk (((HI2.out.step (below_alloc (Below.refl _ _) _)).step hb3).step (below_alloc (Below.refl _ _) (.cells #[.slice A5 0 c5, .slice A6 1 c6] 25))); have hU3 := heap_alloc_new w3 (.cells #[.slice A5 0 c5, .slice A6 1 c6] 25); have q0 := blk2_c0 HI3.out.blk; have q1 := blk2_c1 HI3.out.blk; obtain ⟨ad, rfl, hx⟩ := at_int' HI3.out.row (Below.refl _ _) 0 (by omega) (by decide); simp only [Int.toNat_zero, Addr.add_zero', show rd [0, 2] 0 = 0 from rfl] at hx; have HU3 := Aside0.mk hU3; clear hU3 HI2 hb3)
    | (go_at_call 17; refine (right_is (some ad) c1 [0, 2] A2 c2 [[1, 5]] _ HI3.out.row HI3.out.rows (by simp) true (by decide)).mono ?_; rintro e w4 ⟨rfl, hb4⟩; have HI4 := Aside0.mk (HI3.out.step hb4); have HU4 := Aside0.mk ((hb4.block _ (Array.getElem?_eq_some_iff.1 HU3.out).1).trans HU3.out); have q2 := blk2_c0 HI4.out.blk; have q3 := blk2_c1 HI4.out.blk; clear HI3 HU3 hb4)
    | (go_at_call 24; refine (has_any (some ad) c1 [0, 2] A2 c2 [[1, 5]] (some ⟨w4.heap.size, 0, none⟩) 2 [1, 5] _ (Kd.C_below HI4.out.rows (below_alloc (Below.refl _ _) _)) (lit2 w4 1 5) (by simp) (by simp [Ord])).mono ?_; rintro e w5 ⟨rfl, hb5⟩; have HI5 := Aside0.mk ((HI4.out.step (below_alloc (Below.refl _ _) (.cells #[.int .i64 1, .int .i64 5] 3))).step hb5); have hU5 := (hb5.block _ (by have := (Array.getElem?_eq_some_iff.1 HU4.out).1; simp; omega)).trans ((Below.heap_alloc w4 (.cells #[.int .i64 1, .int .i64 5] 3) _ (Array.getElem?_eq_some_iff.1 HU4.out).1).trans HU4.out); have q4 := blk2_c0 hU5; have q5 := blk2_c1 hU5; clear HI4 HU4 hb5 hU5)
    | (go_at_call 17; refine (right_is (some ⟨w5.heap.size, 0, none⟩) 2 [1, 0] none 0 [] _ (lit2 w5 1 0) (Kd.C_nil _ _) (by simp) false (by decide)).mono ?_; rintro e w6 ⟨rfl, hb6⟩; have HI6 := Aside0.mk ((HI5.out.step (below_alloc (Below.refl _ _) (.cells #[.int .i64 1, .int .i64 0] 3))).step hb6); clear HI5 hb6))
  go_ret
  exact ⟨rfl, HI6.out.bel⟩
end Go.Proofs.Ytlinhcgggfdlpaa.G
