/- Several texts of this claim in one. -/
import Derived.Test.YtgpbhmcmbigbdaaGreatDoorMP
import Derived.Test.YtgpbhmcmbigbdaaGreatDoorBox
import Derived.Test.YtgpbhmcmbigbdaaGreatDoorRows
import Derived.Deep.Matrix
import Derived.ProofKit
import Derived.OpenShut
import Derived.WalkKit
import Derived.LaidMore
import Derived.LaidSub
import Derived.LaidHandle
import Derived.MakeChecks
import Derived.Stop.Joined
import Derived.Lib.LaidTab
/- The join laws' shown: a small case that must work. -/
set_option linter.unusedVariables false
set_option linter.unusedSimpArgs false
namespace Go.Proofs.YtgpbhmcmbigbdaaGreatDoor.G
open Go.RowKit Go.Proofs.YtgpbhmcmbigbdaaGreatDoorW.PrintWords Go.Proofs.YtgpbhmcmbigbdaaGreatDoorW.PrintLast Go.Proofs.YtgpbhmcmbigbdaaGreatDoorW.PrintMore Go.Proofs.YtgpbhmcmbigbdaaGreatDoor.PRefs

theorem s3_uni : uni [0] [1] = [0, 1] := by simp [uni, merge]
theorem s3_rows : joinRows [0] [[1], [2]] [1] [[5]] = [[1, 5], [2, 5]] := by unfold joinRows bothRow; rw [s3_uni]; decide
theorem s3_j2 : joinAt [0] [[1], [2]] [1] [[5]] 2 = ([0, 1], [[1, 5], [2, 5]]) := by rw [joinAt, s3_rows, s3_uni]; rfl
theorem s3_e2 : joinEr [0] [[1], [2]] [1] [[5]] 2 = 0 := by rw [joinEr, s3_rows]; rfl
theorem s3_j1 : joinAt [0] [[1], [2]] [1] [[5]] 1 = ([], []) := by rw [joinAt, s3_rows, s3_uni]; rfl
theorem s3_e1 : joinEr [0] [[1], [2]] [1] [[5]] 1 = 9 := by rw [joinEr, s3_rows]; rfl
theorem s3_semi : semiRows [0] [[1], [2]] [0] [[2]] = [[2]] := by decide
theorem s3_p1 : projRel [0] [[1], [2]] [0] = ([0], [[1], [2]]) := proj_self (by decide)
theorem s3_p2 : projRel [0] [[2]] [0] = ([0], [[2]]) := proj_self (by decide)
theorem s3_no : decide (projRel [0] [[1], [2]] [0] = projRel [0] [[2]] [0]) = false := by rw [s3_p1, s3_p2]; decide
theorem s3_o1 : onto [0] [1] = [] := by rw [onto_eq _ _ (by decide)]; decide
theorem s3_o2 : onto [1] [0] = [] := by rw [onto_eq _ _ (by decide)]; decide
theorem s3_yes : decide (projRel [0] [[1], [2]] [1] = projRel [1] [[5]] [0]) = true := by
  rw [projRel, projRel, s3_o1, s3_o2]; decide
theorem s3_ra : Rt [0] [[1], [2]] := ⟨by decide, by simp, by simp, by simp [InR]⟩
theorem s3_rb : Rt [1] [[5]] := ⟨by decide, by simp, by simp, by simp [InR]⟩
theorem s3_rs : Rt [0] [[2]] := ⟨by decide, by simp, by simp, by simp [InR]⟩
theorem lit_ints1 (w : World) (x : Int) : Kd.C KI (w.alloc (.cells #[.int .i64 x] 3)) (some ⟨w.heap.size, 0, none⟩) 1 [x] := lit_ints w [x] (by simp)
theorem rd_lit1 {w : World} {x y : Int} {W : World} (hW : ((w.alloc (.cells #[.int .i64 x] 3)).alloc (.cells #[.int .i64 y] 3)).alloc (.cells #[.slice (some ⟨w.heap.size + 1, 0, none⟩) 1 1] 22) = W) :
    RelRd W (some ⟨w.heap.size, 0, none⟩) 1 [x] (some ⟨w.heap.size + 1 + 1, 0, none⟩) 1 [[y]] ∧ Below w.heap.size w W := by
  subst hW
  have h1 := lit_ints1 w x
  have h2 := lit_ints1 (w.alloc (.cells #[.int .i64 x] 3)) y
  have h3 := lit_rows1 (c := 1) h2 (by simp)
  rw [World.size_alloc] at h3
  simp only [World.size_alloc, List.length_singleton] at h3
  exact ⟨⟨Kd.C_below (Kd.C_below h1 (below_alloc (Below.refl _ _) _)) (below_alloc (Below.refl _ _) _), Nat.le_refl _, h3, Nat.le_refl _⟩, below_alloc (below_alloc (below_alloc (Below.refl _ _) _) _) _⟩
theorem rd_lit2 {w : World} {x y z : Int} {W : World} (hW : (((w.alloc (.cells #[.int .i64 x] 3)).alloc (.cells #[.int .i64 y] 3)).alloc (.cells #[.int .i64 z] 3)).alloc (.cells #[.slice (some ⟨w.heap.size + 1, 0, none⟩) 1 1, .slice (some ⟨w.heap.size + 1 + 1, 0, none⟩) 1 1] 22) = W) :
    RelRd W (some ⟨w.heap.size, 0, none⟩) 1 [x] (some ⟨w.heap.size + 1 + 1 + 1, 0, none⟩) 2 [[y], [z]] ∧ Below w.heap.size w W := by
  subst hW
  have h1 := lit_ints1 w x
  have h2 := Kd.C_below (lit_ints1 (w.alloc (.cells #[.int .i64 x] 3)) y) (below_alloc (Below.refl _ _) (.cells #[.int .i64 z] 3))
  have h2' := lit_ints1 ((w.alloc (.cells #[.int .i64 x] 3)).alloc (.cells #[.int .i64 y] 3)) z
  have h3 := lit_rows2 (c := 1) (d := 1) h2 (by simp) h2' (by simp)
  simp only [World.size_alloc, List.length_singleton] at h3
  exact ⟨⟨Kd.C_below (Kd.C_below (Kd.C_below h1 (below_alloc (Below.refl _ _) _)) (below_alloc (Below.refl _ _) _)) (below_alloc (Below.refl _ _) _), Nat.le_refl _, h3, Nat.le_refl _⟩, below_alloc (below_alloc (below_alloc (below_alloc (Below.refl _ _) _) _) _) _⟩

section
variable {W : World} {A : Option Addr} {c : Nat} {A' : Option Addr} {c' : Nat} {B : Option Addr} {d : Nat} {B' : Option Addr} {d' : Nat}
theorem s3_join2 (h : RelRd W A c [0] A' c' [[1], [2]]) (h' : RelRd W B d [1] B' d' [[5]]) (ht : Tab W) :
    Calls Tryz.prog 10 #[.agg #[.slice A 1 c, .slice A' 2 c'], .agg #[.slice B 1 d, .slice B' 1 d'], .int .i64 2] W fun e w' => ∃ A c D d, e = .returned (.tuple #[.agg #[.slice A 2 c, .slice D 2 d], .int .i64 0]) ∧ Below W.heap.size W w' := by
  refine (join_rt h s3_ra h' s3_rb 2 ht s3_j2 s3_e2).mono ?_
  rintro e w' ⟨A, c, D, d, rfl, _, hb⟩
  exact ⟨A, c, D, d, rfl, hb⟩
theorem s3_join1 (h : RelRd W A c [0] A' c' [[1], [2]]) (h' : RelRd W B d [1] B' d' [[5]]) (ht : Tab W) :
    Calls Tryz.prog 10 #[.agg #[.slice A 1 c, .slice A' 2 c'], .agg #[.slice B 1 d, .slice B' 1 d'], .int .i64 1] W fun e w' => ∃ A c D d, e = .returned (.tuple #[.agg #[.slice A 0 c, .slice D 0 d], .int .i64 9]) ∧ Below W.heap.size W w' := by
  refine (join_rt h s3_ra h' s3_rb 1 ht s3_j1 s3_e1).mono ?_
  rintro e w' ⟨A, c, D, d, rfl, _, hb⟩
  exact ⟨A, c, D, d, rfl, hb⟩
theorem s3_semi2 (h : RelRd W A c [0] A' c' [[1], [2]]) (h' : RelRd W B d [0] B' d' [[2]]) (ht : Tab W) :
    Calls Tryz.prog 13 #[.agg #[.slice A 1 c, .slice A' 2 c'], .agg #[.slice B 1 d, .slice B' 1 d']] W fun e w' => ∃ A c D d, e = .returned (.agg #[.slice A 1 c, .slice D 1 d]) ∧ RelRd w' A c [0] D d [[2]] ∧ Below W.heap.size W w' := by
  refine (semi_rt h s3_ra h' s3_rs ht s3_semi).mono ?_
  rintro e w' ⟨A, c, D, d, rfl, hr, hb⟩
  exact ⟨A, c, D, d, rfl, hr, hb⟩
theorem s3_agree0 (h : RelRd W A c [0] A' c' [[1], [2]]) (h' : RelRd W B d [0] B' d' [[2]]) :
    Calls Tryz.prog 15 #[.agg #[.slice A 1 c, .slice A' 2 c'], .agg #[.slice B 1 d, .slice B' 1 d']] W fun e w' => e = .returned (.bool false) ∧ Below W.heap.size W w' := agree_rt h s3_ra h' s3_rs false s3_no
theorem s3_agree1 (h : RelRd W A c [0] A' c' [[1], [2]]) (h' : RelRd W B d [1] B' d' [[5]]) :
    Calls Tryz.prog 15 #[.agg #[.slice A 1 c, .slice A' 2 c'], .agg #[.slice B 1 d, .slice B' 1 d']] W fun e w' => e = .returned (.bool true) ∧ Below W.heap.size W w' := agree_rt h s3_ra h' s3_rb true s3_yes
end

structure Sh3 (w : World) (A : Option Addr) (c : Nat) (A' : Option Addr) (c' : Nat) (g : Nat) (B : Option Addr) (d : Nat) (B' : Option Addr) (d' : Nat) (g' : Nat) (W : World) : Prop where
  bel : Below w.heap.size w W
  a : RelBx W g A c [0] A' c' [[1], [2]]
  b : RelBx W g' B d [1] B' d' [[5]]
theorem Sh3.step {w W W1 : World} {A : Option Addr} {c : Nat} {A' : Option Addr} {c' : Nat} {g : Nat} {B : Option Addr} {d : Nat} {B' : Option Addr} {d' g' : Nat} (h : Sh3 w A c A' c' g B d B' d' g' W) (hb : Below W.heap.size W W1) : Sh3 w A c A' c' g B d B' d' g' W1 :=
  ⟨below_then h.bel h.bel.size hb, h.a.step hb, h.b.step hb⟩

set_option maxHeartbeats 4000000 in
set_option maxRecDepth 100000 in
theorem shown3_any (w : World) (htab : Tab w) : Calls Tryz.prog 8 #[] w fun e w' => e = .returned (.bool true) ∧ Below w.heap.size w w' := by
  have HT := Aside0.mk htab
  clear htab
  obtain ⟨Wa, hWa⟩ : ∃ W, (((w.alloc (.cells #[.int .i64 0] 3)).alloc (.cells #[.int .i64 1] 3)).alloc (.cells #[.int .i64 2] 3)).alloc (.cells #[.slice (some ⟨w.heap.size + 1, 0, none⟩) 1 1, .slice (some ⟨w.heap.size + 1 + 1, 0, none⟩) 1 1] 22) = W := ⟨_, rfl⟩
  have hra := rd_lit2 hWa
  have hsa : Wa.heap.size = w.heap.size + 1 + 1 + 1 + 1 := by rw [← hWa]; simp only [World.size_alloc]
  obtain ⟨Wb, hWb⟩ : ∃ W, Wa.alloc (.cells #[.slice (some ⟨w.heap.size, 0, none⟩) 1 1, .slice (some ⟨w.heap.size + 1 + 1 + 1, 0, none⟩) 2 2] 27) = W := ⟨_, rfl⟩
  have hba : RelBx Wb Wa.heap.size (some ⟨w.heap.size, 0, none⟩) 1 [0] (some ⟨w.heap.size + 1 + 1 + 1, 0, none⟩) 2 [[1], [2]] := by rw [← hWb]; exact RelBx.new hra.1
  have hbb : Below w.heap.size w Wb := by rw [← hWb]; exact below_alloc hra.2 _
  obtain ⟨Wc, hWc⟩ : ∃ W, ((Wb.alloc (.cells #[.int .i64 1] 3)).alloc (.cells #[.int .i64 5] 3)).alloc (.cells #[.slice (some ⟨Wb.heap.size + 1, 0, none⟩) 1 1] 22) = W := ⟨_, rfl⟩
  have hrb := rd_lit1 hWc
  have hsc : Wc.heap.size = Wb.heap.size + 1 + 1 + 1 := by rw [← hWc]; simp only [World.size_alloc]
  obtain ⟨Wd, hWd⟩ : ∃ W, Wc.alloc (.cells #[.slice (some ⟨Wb.heap.size, 0, none⟩) 1 1, .slice (some ⟨Wb.heap.size + 1 + 1, 0, none⟩) 1 1] 27) = W := ⟨_, rfl⟩
  have hd : Sh3 w (some ⟨w.heap.size, 0, none⟩) 1 (some ⟨w.heap.size + 1 + 1 + 1, 0, none⟩) 2 Wa.heap.size (some ⟨Wb.heap.size, 0, none⟩) 1 (some ⟨Wb.heap.size + 1 + 1, 0, none⟩) 1 Wc.heap.size Wd := by
    rw [← hWd]
    exact ⟨below_alloc (below_then hbb hbb.size hrb.2) _, (hba.step hrb.2).step (below_alloc (Below.refl _ _) _), RelBx.new hrb.1⟩
  rw [hsa, hsc] at hd
  have H1 := Aside0.mk hd
  clear hra hba hbb hrb hd
  have q0 := blk2_c0 H1.out.a.blk
  have q1 := blk2_c1 H1.out.a.blk
  have q2 := blk2_c0 H1.out.b.blk
  have q3 := blk2_c1 H1.out.b.blk
  have hf0 := rel_field0
  have hf1 := rel_field1
  go_enter Tryz.func8, Tryz.ntmps8
  go_wp2_with (first
    | (have hgd := H5; clear hgd; go_at_call 15; refine (s3_agree1 H5.out.a.rd H5.out.b.rd).mono ?_; rintro e w6 ⟨rfl, hb6⟩; have H6 := Aside0.mk (H5.out.step hb6); clear hb6)
    | (have hgd := H4; clear hgd; go_at_call 15; refine (s3_agree0 H4.out.a.rd HS4.out.rd).mono ?_; rintro e w5 ⟨rfl, hb5⟩; have H5 := Aside0.mk (H4.out.step hb5); have qe := blk2_c0 H5.out.a.blk; have qf := blk2_c1 H5.out.a.blk; have qg := blk2_c0 H5.out.b.blk; have qh := blk2_c1 H5.out.b.blk; clear H4 hb5)
    | (have hgd := H3; clear hgd; go_at_call 13; refine (s3_semi2 (H3.out.a.rd.step HL3.out.2) HL3.out.1 (HT.out.step (below_then H3.out.bel H3.out.bel.size HL3.out.2))).mono ?_; rintro e w4 ⟨As, cs, Ds, ds, rfl, hrs, hb4⟩; have HS4 := Aside0.mk (RelBx.new hrs); have H4 := Aside0.mk (((H3.out.step HL3.out.2).step hb4).step (below_alloc (Below.refl _ _) (.cells #[.slice As 1 cs, .slice Ds 1 ds] 27))); have hr4 := (Below.heap_alloc w4 (.cells #[.slice As 1 cs, .slice Ds 1 ds] 27) _ (Nat.lt_of_lt_of_le (Nat.lt_of_lt_of_le (Array.getElem?_eq_some_iff.1 HR3.out).1 HL3.out.2.size) hb4.size)).trans ((hb4.block _ (Nat.lt_of_lt_of_le (Array.getElem?_eq_some_iff.1 HR3.out).1 HL3.out.2.size)).trans ((HL3.out.2.block _ (Array.getElem?_eq_some_iff.1 HR3.out).1).trans HR3.out)); have qi := blk2_c0 hr4; have qj := blk2_c1 hr4; have qa := blk2_c0 H4.out.a.blk; have qb := blk2_c1 H4.out.a.blk; have qc := blk2_c0 HS4.out.blk; have qd := blk2_c1 HS4.out.blk; clear H3 HR3 HL3 hr4 hb4)
    | (have hgd := H2; clear hgd; go_at_call 10; refine (s3_join1 H2.out.a.rd H2.out.b.rd (HT.out.step H2.out.bel)).mono ?_; rintro e w3 ⟨Af, cf, Df, df, rfl, hb3⟩; have H3 := Aside0.mk ((H2.out.step hb3).step (below_alloc (Below.refl _ _) (.cells #[.slice Af 0 cf, .slice Df 0 df] 27))); have q8 := blk2_c0 H3.out.a.blk; have q9 := blk2_c1 H3.out.a.blk; have hl3 := rd_lit1 (w := w3.alloc (.cells #[.slice Af 0 cf, .slice Df 0 df] 27)) (x := 0) (y := 2) rfl; simp only [World.size_alloc] at hl3; have HL3 := Aside0.mk (And.intro hl3.1 (show Below (w3.alloc (.cells #[.slice Af 0 cf, .slice Df 0 df] 27)).heap.size (w3.alloc (.cells #[.slice Af 0 cf, .slice Df 0 df] 27)) _ from by rw [World.size_alloc]; exact hl3.2)); have hk3 := (((Below.heap_alloc w2 (.cells #[.slice Ar 2 cr, .slice Dr 2 dr] 27)) w2.heap.size)); have HR3 := Aside0.mk ((Below.heap_alloc w3 (.cells #[.slice Af 0 cf, .slice Df 0 df] 27) _ (Nat.lt_of_lt_of_le (Array.getElem?_eq_some_iff.1 HR2.out).1 hb3.size)).trans ((hb3.block _ (Array.getElem?_eq_some_iff.1 HR2.out).1).trans HR2.out)); clear hk3 hl3 H2 HR2 hb3)
    | (go_at_call 10; refine (s3_join2 H1.out.a.rd H1.out.b.rd (HT.out.step H1.out.bel)).mono ?_; rintro e w2 ⟨Ar, cr, Dr, dr, rfl, hb2⟩; have H2 := Aside0.mk ((H1.out.step hb2).step (below_alloc (Below.refl _ _) (.cells #[.slice Ar 2 cr, .slice Dr 2 dr] 27))); have HR2 := Aside0.mk (heap_alloc_new w2 (.cells #[.slice Ar 2 cr, .slice Dr 2 dr] 27)); have q4 := blk2_c0 H2.out.a.blk; have q5 := blk2_c1 H2.out.a.blk; have q6 := blk2_c0 H2.out.b.blk; have q7 := blk2_c1 H2.out.b.blk; clear H1 hb2))
  go_ret
  exact ⟨rfl, H6.out.bel⟩
end Go.Proofs.YtgpbhmcmbigbdaaGreatDoor.G

/- The join laws' small, as the print tells it: what it computes; it is right. -/
set_option linter.unusedVariables false
set_option linter.unusedSimpArgs false
namespace Go.Proofs.YtgpbhmcmbigbdaaGreatDoor.G
open Go.RowKit Go.Proofs.YtgpbhmcmbigbdaaGreatDoorW.PrintWords Go.Proofs.YtgpbhmcmbigbdaaGreatDoorW.PrintLast Go.Proofs.YtgpbhmcmbigbdaaGreatDoorW.PrintMore Go.Proofs.YtgpbhmcmbigbdaaGreatDoor.PRefs

def smallS3 (l : List Int) : List Int := (l.take 3).foldl (fun s v => uni1 s (md v 5)) []
def smallRows3 (n : Nat) (rows : List (List Int)) : List (List Int) := Pl.sortU ((rows.take 12).map (smallRow n))
theorem Small3_l2 (x1 : List (List Int)) (x5 : List Int) (x7 : List (List Int)) (i : Nat) (row : List Int) (hrow : rd_L1 x1 (i : Int) = row) (hi : i < x1.length) (hi2 : i ≤ 1000000) (h5 : x5.length ≤ 1000000) (h7 : x7.length ≤ 1000000) (r : List Int × List (List Int)) (K0 : Nat)
    (hr : ∀ k, K0 ≤ k → arboristlaw03_small.l1 k x1 x5 (x7 ++ [smallRow x5.length row]) ((i + 1 : Nat) : Int) = some r) :
    ∀ n j k, j + n = x5.length → K0 + n + 1 ≤ k → arboristlaw03_small.l2 k x1 x5 x7 (i : Int) (rowTo x5.length row j) (j : Int) = some r
  | n, j, 0, _, h => by omega
  | 0, j, k + 1, h, hk => by
    unfold arboristlaw03_small.l2
    rw [if_neg (by omega), if_pos (by omega), rowTo_end _ _ _ (.inl (by omega)), w1 i (by omega)]
    exact hr k (by omega)
  | n + 1, j, k + 1, h, hk => by
    unfold arboristlaw03_small.l2
    rw [if_pos (by omega), if_pos (by omega), if_pos (by omega), hrow]
    by_cases hj : j < row.length
    · rw [if_pos (by omega), if_pos (by omega), if_pos (by rw [rowTo_len]; omega), w1 j (by omega), Int.toNat_natCast]
      have := rowTo_set x5.length row j (by omega) hj
      unfold md at this
      rw [this]
      exact Small3_l2 x1 x5 x7 i row hrow hi hi2 h5 h7 r K0 hr n (j + 1) k (by omega) (by omega)
    · rw [if_neg (by omega), if_pos (by omega), rowTo_end _ _ _ (.inr (by omega)), w1 i (by omega)]
      exact hr k (by omega)

theorem Small3_l1 (x1 : List (List Int)) (x5 : List Int) (h5 : x5.length ≤ 1000) (C : Nat) (hC : 21 * (2 * x5.length + 40) ≤ C) : ∀ n i k (x7 : List (List Int)), i + n = min x1.length 12 → x7.length ≤ i → (∀ y ∈ x7, y.length ≤ x5.length) → (n + 1) * (x5.length + 10) + C ≤ k →
    arboristlaw03_small.l1 k x1 x5 x7 (i : Int) = some (x5, Pl.sortU (x7 ++ ((x1.take 12).drop i).map (smallRow x5.length)))
  | n, i, 0, _, _, _, _, h => by
    have : 1 * (x5.length + 10) ≤ (n + 1) * (x5.length + 10) := Nat.mul_le_mul_right _ (by omega)
    omega
  | n, i, 1, _, _, _, _, h => by
    have : 1 * (x5.length + 10) ≤ (n + 1) * (x5.length + 10) := Nat.mul_le_mul_right _ (by omega)
    omega
  | 0, i, k + 2, x7, h, h7, h7M, hk => by
    have hs : arboristref01_Sort.f k x7 = some (Pl.sortU x7) := Sort_f x7 x5.length k (by omega) (by omega) h7M (by
      have h1 : (x7.length + 1) * (2 * x5.length + x7.length + 10) ≤ 21 * (2 * x5.length + 30) := Nat.mul_le_mul (by omega) (by omega)
      omega)
    have hd : (x1.take 12).drop i = [] := List.drop_of_length_le (by simp; omega)
    unfold arboristlaw03_small.l1 arboristlaw03_small.j3
    rw [hd]
    by_cases h1 : i < x1.length
    · rw [if_pos (by omega), decide_eq_false (by omega), if_neg (by simp), hs]; simp
    · rw [if_neg (by omega), if_neg (by simp), hs]; simp
  | n + 1, i, k + 2, x7, h, h7, h7M, hk => by
    have h1 : i < x1.length := by omega
    have h2 : i < 12 := by omega
    have e : (n + 1 + 1) * (x5.length + 10) = (n + 1) * (x5.length + 10) + (x5.length + 10) := by rw [Nat.add_mul (n + 1) 1, Nat.one_mul]
    unfold arboristlaw03_small.l1 arboristlaw03_small.j3
    rw [if_pos (by omega), decide_eq_true (by omega), if_pos rfl, if_pos (by omega), if_pos (by rw [Int.toNat_natCast]; omega), Int.toNat_natCast, ← rowTo_zero x5.length x1[i]]
    refine Small3_l2 x1 x5 x7 i x1[i] (rd_L1_get x1 i h1) h1 (by omega) (by omega) (by omega) _ ((n + 1) * (x5.length + 10) + C) (fun k' hk' => ?_) x5.length 0 k (by omega) (by omega)
    rw [Small3_l1 x1 x5 h5 C hC n (i + 1) k' _ (by omega) (by simp; omega) (fun y hy => by
      rcases List.mem_append.1 hy with hy | hy
      · exact h7M y hy
      · rw [List.mem_singleton.1 hy, smallRow_len]; exact Nat.le_refl _) hk']
    have hd : (x1.take 12).drop i = x1[i] :: (x1.take 12).drop (i + 1) := by
      rw [List.drop_eq_getElem_cons (by simp; omega)]; simp
    rw [hd]
    simp

theorem Small3_l0 (x0 : List Int) (x1 : List (List Int)) : ∀ n i k (x5 : List Int), i + n = min x0.length 3 → x5.length ≤ i → n + 3000 ≤ k →
    arboristlaw03_small.l0 k x0 x1 x5 (i : Int) = some (((x0.take 3).drop i).foldl (fun s v => uni1 s (md v 5)) x5, smallRows3 (((x0.take 3).drop i).foldl (fun s v => uni1 s (md v 5)) x5).length x1)
  | n, i, 0, _, _, _, h => by omega
  | 0, i, 1, x5, h, h5, hk => by omega
  | 0, i, k + 2, x5, h, h5, hk => by
    have hd : (x0.take 3).drop i = [] := List.drop_of_length_le (by simp; omega)
    have h4 : x5.length ≤ 3 := by omega
    have hj : arboristlaw03_small.j1 (k + 1) x1 x5 = some (x5, smallRows3 x5.length x1) := by
      unfold arboristlaw03_small.j1
      have hm : min x1.length 12 ≤ 12 := Nat.min_le_right _ _
      have h1 : (min x1.length 12 + 1) * (x5.length + 10) ≤ 21 * 14 := Nat.mul_le_mul (by omega) (by omega)
      have := Small3_l1 x1 x5 (by omega) 1008 (by omega) (min x1.length 12) 0 k [] (by omega) (by simp) (by simp) (by omega)
      simpa [smallRows3] using this
    unfold arboristlaw03_small.l0
    rw [hd]
    by_cases h1 : i < x0.length
    · rw [if_pos (by omega), if_neg (by omega), hj]; rfl
    · rw [if_neg (by omega), hj]; rfl
  | n + 1, i, k + 1, x5, h, h5, hk => by
    have h1 : i < x0.length := by omega
    have hd : (x0.take 3).drop i = rd x0 i :: (x0.take 3).drop (i + 1) := by
      rw [List.drop_eq_getElem_cons (by simp; omega), rd_get x0 i h1]; simp
    unfold arboristlaw03_small.l0
    rw [if_pos (by omega), if_pos (by omega), if_pos (by omega), Unite_f x5 _ k (by omega) (by simp) (by simp; omega)]
    simp only [Option.bind_some]
    rw [w1 i (by omega), hd, List.foldl_cons]
    exact Small3_l0 x0 x1 n (i + 1) k _ (by omega) (Nat.le_trans (uni1_len x5 _) (by omega)) (by omega)
theorem Small3_f (x0 : List Int) (x1 : List (List Int)) (k : Nat) (hk : 4000 ≤ k) : arboristlaw03_small.f k x0 x1 = some (smallS3 x0, smallRows3 (smallS3 x0).length x1) := by
  unfold arboristlaw03_small.f
  have hm : min x0.length 3 ≤ 3 := Nat.min_le_right _ _
  have := Small3_l0 x0 x1 (min x0.length 3) 0 k [] (by omega) (by simp) (by omega)
  simpa [smallS3] using this
theorem foldl_uni3 (l s : List Int) : (l.foldl (fun s v => uni1 s (md v 5)) s).length ≤ s.length + l.length ∧ (Rise s → Rise (l.foldl (fun s v => uni1 s (md v 5)) s)) ∧ ∀ x, x ∈ l.foldl (fun s v => uni1 s (md v 5)) s → x ∈ s ∨ ∃ v, x = md v 5 := by
  induction l generalizing s with
  | nil => exact ⟨Nat.le_refl _, id, fun x h => .inl h⟩
  | cons a l ih =>
    obtain ⟨h1, h2, h3⟩ := ih (uni1 s (md a 5))
    refine ⟨?_, fun h => h2 (uni1_rise _ _ h), fun x hx => ?_⟩
    · have := uni1_len s (md a 5)
      simp only [List.foldl_cons, List.length_cons]; omega
    · rcases h3 x hx with h | h
      · rcases (uni1_mem _ _ _).1 h with h | h
        · exact .inl h
        · exact .inr ⟨a, h⟩
      · exact .inr h
theorem smallS3_pos (l : List Int) : ∀ x ∈ smallS3 l, 0 ≤ x ∧ x < 5 := fun x hx => by
  rcases (foldl_uni3 (l.take 3) []).2.2 x hx with h | ⟨v, rfl⟩
  · simp at h
  · exact md_pos v 5 (by omega)
theorem smallS3_len (l : List Int) : (smallS3 l).length ≤ 3 := by
  have h := (foldl_uni3 (l.take 3) []).1
  have h2 : (l.take 3).length ≤ 3 := by simp; omega
  unfold smallS3
  simp only [List.length_nil] at h
  omega
theorem smallS3_rise (l : List Int) : Rise (smallS3 l) := (foldl_uni3 (l.take 3) []).2.1 List.Pairwise.nil
theorem smallRows3_up (n : Nat) (L : List (List Int)) : Pl.Up (smallRows3 n L) := Pl.sortU_up _
theorem smallRows3_len (n : Nat) (L : List (List Int)) : (smallRows3 n L).length ≤ 12 := by
  have := Pl.sortU_length_le ((L.take 12).map (smallRow n))
  unfold smallRows3
  simp only [List.length_map, List.length_take] at this
  omega
theorem smallRows3_row (n : Nat) (L : List (List Int)) : ∀ x ∈ smallRows3 n L, x.length = n := fun x hx => by
  unfold smallRows3 at hx
  rw [Pl.mem_sortU] at hx
  obtain ⟨t, _, rfl⟩ := List.mem_map.1 hx
  exact smallRow_len n t

theorem right_small3 (l : List Int) (L : List (List Int)) : RightP (smallS3 l) (smallRows3 (smallS3 l).length L) :=
  ⟨⟨smallS3_rise l, fun ⟨h, h'⟩ => by
    have := (smallS3_pos l (rd (smallS3 l) 0) (by rw [show (0 : Int) = ((0 : Nat) : Int) from rfl, rd_get _ 0 h]; exact List.getElem_mem h)).1
    omega⟩, smallRows3_row _ _, smallRows3_up _ _⟩
theorem small3_is (A0 : Option Addr) (c0 : Nat) (sch : List Int) (A1 : Option Addr) (c1 : Nat) (rows : List (List Int)) (w : World) (hr0 : Kd.C KI w A0 sch.length sch) (hc0 : sch.length ≤ c0) (hr1 : Kd.C KL w A1 rows.length rows) (hc1 : rows.length ≤ c1) {SC : List Int} {L : List (List Int)} (hF : arboristlaw03_small.f 4000 sch rows = some (SC, L)) :
    Calls Tryz.prog 9 #[.slice A0 sch.length c0, .slice A1 rows.length c1] w fun e w' => RelTo w w' e SC L := by
  refine (arboristlaw03_small.calls 4000 A0 c0 sch A1 c1 rows SC L w hr0 hc0 hr1 hc1 hF).mono ?_
  rintro e w' ⟨v0, v1, rfl, hR, hN, hb⟩
  obtain ⟨A3, c3, rfl, hl3, hr3⟩ := Kd.R_reads hR
  obtain ⟨A4, c4, rfl, hl4, hr4⟩ := Kd.N_reads hN
  exact ⟨A3, c3, A4, c4, rfl, ⟨hr3, hl3, hr4, hl4⟩, hb⟩
end Go.Proofs.YtgpbhmcmbigbdaaGreatDoor.G

/- What the listed variables give: the table that strconv reads; a start that fits; an argument that is a relation. -/
set_option linter.unusedVariables false
set_option linter.unusedSimpArgs false
namespace Go.Proofs.YtgpbhmcmbigbdaaGreatDoor.G
open Go.RowKit Go.ChangeShapes Go.WideShapes Go.ChangeAt Go.Deep Go.Proofs.YtgpbhmcmbigbdaaGreatDoorW.PrintWords Go.Proofs.YtgpbhmcmbigbdaaGreatDoorW.PrintLast Go.Proofs.YtgpbhmcmbigbdaaGreatDoorW.PrintMore

abbrev laidList : List (String × DataW Unit) := [("math/bits.deBruijn32tab", Rows.laid_math_bits_deBruijn32tab), ("math/bits.deBruijn64tab", Rows.laid_math_bits_deBruijn64tab), ("internal/strconv.uint64pow10", Rows.laid_internal_strconv_uint64pow10)]
theorem gPow : Tryz.prog.globalNamed "internal/strconv.uint64pow10" = some 0 := by kernel_rfl
theorem tPow : (Tryz.prog.globals[0]?).map (·.type) = some 165 := by kernel_rfl
theorem tab_of {W : World} (h : laidMetH Tryz.prog laidList W) : Tab W := by
  have h1 := laidMetH.filter (fun x => x.1 == "internal/strconv.uint64pow10") h
  have e : laidList.filter (fun x => x.1 == "internal/strconv.uint64pow10") = [("internal/strconv.uint64pow10", Lib.tabData .u64 Lib.pow10Tab)] := by
    rw [show laidList = [("math/bits.deBruijn32tab", Rows.laid_math_bits_deBruijn32tab), ("math/bits.deBruijn64tab", Rows.laid_math_bits_deBruijn64tab), ("internal/strconv.uint64pow10", Rows.laid_internal_strconv_uint64pow10)] from rfl]
    rw [List.filter_cons_of_neg (by decide), List.filter_cons_of_neg (by decide), List.filter_cons_of_pos (by decide)]
    rfl
  rw [e, MakeChecks.laidMetH_plain _ _ _ (by kernel_rfl)] at h1
  exact Lib.tabIs_of_head gPow tPow Tryz.underlying165 Tryz.underlying133 (by kernel_rfl) (by kernel_rfl) h1
theorem door_met (os : Os) (args : Array Value) : laidMetH Tryz.prog laidList ((World.doorLaid Tryz.prog 400 os).forCall (fun _ _ => 0) ⟨#[], args, []⟩).memory :=
  laidMetH_of_parts3 (fuel := 8) (laidMet_of_run' 8 (by kernel_rfl) (by kernel_rfl)) (by kernel_rfl) (by kernel_rfl)
end Go.Proofs.YtgpbhmcmbigbdaaGreatDoor.G

/- A part that comes in: its box, what it reads as; what small makes of it. -/
set_option linter.unusedVariables false
set_option linter.unusedSimpArgs false
namespace Go.Proofs.YtgpbhmcmbigbdaaGreatDoor.G
open Go.RowKit Go.ChangeShapes Go.WideShapes Go.ChangeAt Go.Deep Go.Proofs.YtgpbhmcmbigbdaaGreatDoorW.PrintWords Go.Proofs.YtgpbhmcmbigbdaaGreatDoorW.PrintLast Go.Proofs.YtgpbhmcmbigbdaaGreatDoorW.PrintMore Go.Proofs.YtgpbhmcmbigbdaaGreatDoor.PRefs

structure PtBx (W : World) (g : Nat) (A : Option Addr) (c : Nat) (sc : List Int) (A' : Option Addr) (c' : Nat) (L : List (List Int)) : Prop where
  blk : W.heap[g]? = some (.cells #[.slice A sc.length c, .slice A' L.length c'] 25 (0, 0))
  rd : RelRd W A c sc A' c' L
theorem PtBx.step {W W1 : World} {g : Nat} {A : Option Addr} {c : Nat} {sc : List Int} {A' : Option Addr} {c' : Nat} {L : List (List Int)} (h : PtBx W g A c sc A' c' L) (hb : Below W.heap.size W W1) : PtBx W1 g A c sc A' c' L :=
  ⟨(hb.block _ (Array.getElem?_eq_some_iff.1 h.blk).1).trans h.blk, h.rd.step hb⟩
theorem smallRow_in (n : Nat) (row : List Int) : ∀ x ∈ smallRow n row, 0 ≤ x ∧ x ≤ 2 := fun x hx => by
  unfold smallRow at hx
  obtain ⟨q, _, rfl⟩ := List.mem_map.1 hx
  split
  · have := md_pos (rd row q) 3 (by omega); omega
  · omega
theorem small3_in (n : Nat) (L : List (List Int)) : InR (smallRows3 n L) := fun t ht x hx => by
  unfold smallRows3 at ht
  rw [Pl.mem_sortU] at ht
  obtain ⟨r, _, rfl⟩ := List.mem_map.1 ht
  have := smallRow_in n r x hx
  omega
structure Sm (sc : List Int) (L : List (List Int)) : Prop where
  rt : Rt sc L
  s : sc.length ≤ 3
  l : L.length ≤ 12
theorem sm_small (sch : List Int) (L : List (List Int)) : Sm (smallS3 sch) (smallRows3 (smallS3 sch).length L) := by
  have h1 := smallS3_len sch
  have h2 := smallRows3_len (smallS3 sch).length L
  exact ⟨⟨right_small3 sch L, by omega, by omega, small3_in _ _⟩, h1, h2⟩
theorem Sm.sz {sc : List Int} {L : List (List Int)} (h : Sm sc L) : Sz sc L := ⟨by have := h.s; omega, by have := h.l; omega, fun x hx => by rw [h.rt.r.2.1 x hx]; have := h.s; omega⟩
theorem Rt.semi {sc : List Int} {L : List (List Int)} (h : Rt sc L) (sd : List Int) (M : List (List Int)) : Rt sc (semiRows sc L sd M) :=
  ⟨right_semi h.r sd M, h.s, Nat.le_trans (List.length_filter_le _ _) h.l, inR_filter h.i _⟩
theorem Rt.proj {sc : List Int} {L : List (List Int)} (h : Rt sc L) (vars : List Int) : Rt (projRel sc L vars).1 (projRel sc L vars).2 := by
  refine ⟨right_proj h.r vars, ?_, Nat.le_trans (cutRows_len _ _ _) h.l, inR_cut h.i _⟩
  have e : (projRel sc L vars).1 = onto sc vars := rfl
  rw [e, onto_eq sc vars h.r.1.1]
  exact Nat.le_trans (List.length_filter_le _ _) h.s
theorem sm_join {sc sd : List Int} {L M : List (List Int)} (h : Sm sc L) (h' : Sm sd M) : (joinRows sc L sd M).length ≤ 144 :=
  Nat.le_trans (join_len_le sc L sd M) (Nat.mul_le_mul h.l h'.l)
theorem rt_smjoin {sc sd : List Int} {L M : List (List Int)} (h : Sm sc L) (h' : Sm sd M) : Rt (uni sc sd) (joinRows sc L sd M) :=
  rt_join h.rt h'.rt (by have := h.s; have := h'.s; omega) (by have := sm_join h h'; omega)
theorem slice_of {H : Type} {enc : TypeId × Value → H} {W : World} {base : Nat} {held : Bool} {v : Value} {x : DataW H × List MemPlace} {fuel : Nat} {t e : Nat} (ht : Tryz.prog.underlying t = some (.slice e))
    (h : DataW.trod enc Tryz.prog W base (fun _ => true) held fuel t [v] = some x) : ∃ a len cap, v = .slice a len cap := by
  rcases Go.Deep.open_slice ht h with h1 | h1
  · simp at h1; exact ⟨_, _, _, h1.1⟩
  · obtain ⟨a, len, cap, h2⟩ : ∃ a len cap, [v] = [Value.slice a len cap] := by
      obtain ⟨ad, l, c, _, _, _, _, h3, _⟩ := h1
      exact ⟨_, _, _, h3⟩
    simp at h2
    exact ⟨a, len, cap, h2⟩
set_option maxRecDepth 100000 in
theorem in_part {H : Type} {enc : TypeId × Value → H} {W : World} {base : Nat} {held : Bool} {cs : Array Value} {x : DataW H × List MemPlace} {fuel : Nat}
    (h : DataW.trod enc Tryz.prog W base (fun _ => true) held fuel 25 (Value.agg cs).cells.toList = some x) :
    ∃ A c sc A' c' L, cs = #[.slice A sc.length c, .slice A' L.length c'] ∧ RelRd W A c sc A' c' L := by
  have e : (Value.agg cs).cells.toList = cs.toList := by simp [Value.cells]
  rw [e] at h
  obtain ⟨y0, y1, n, _, hl, h0, h1⟩ := Go.ChangeShapes.trod_struct2 Tryz.underlying25 h
  have c1 : Tryz.prog.cellsOf 25 = 2 := by kernel_rfl
  have c2 : Tryz.prog.cellsOf 22 = 1 := by kernel_rfl
  have c3 : Tryz.prog.cellsOf 23 = 1 := by kernel_rfl
  rw [c1] at hl
  obtain ⟨l⟩ := cs
  match l, hl with
  | [a, b], _ =>
    replace h0 : DataW.trod enc Tryz.prog W base (fun _ => true) held n 22 [a] = some y0 := by
      have h2 : DataW.trod enc Tryz.prog W base (fun _ => true) held n 22 (([a, b].drop 0).take (Tryz.prog.cellsOf 22)) = some y0 := h0
      rwa [c2] at h2
    replace h1 : DataW.trod enc Tryz.prog W base (fun _ => true) held n 23 [b] = some y1 := by
      have h2 : DataW.trod enc Tryz.prog W base (fun _ => true) held n 23 (([a, b].drop 1).take (Tryz.prog.cellsOf 23)) = some y1 := h1
      rwa [c3] at h2
    obtain ⟨a0, l0, c0, rfl⟩ := slice_of Tryz.underlying22 h0
    obtain ⟨a1, l1, c1, rfl⟩ := slice_of Tryz.underlying23 h1
    obtain ⟨xs, hx, hcx, hC⟩ := in_ints (a := a0) (len := l0) (cap := c0) h0
    obtain ⟨L, hL, hcL, hD⟩ := in_rows (a := a1) (len := l1) (cap := c1) h1
    subst hx hL
    exact ⟨a0, c0, xs, a1, c1, L, rfl, ⟨hC, hcx, hD, hcL⟩⟩

section
variable {w : World} {A : Option Addr} {c : Nat} {sc : List Int} {A' : Option Addr} {c' : Nat} {L : List (List Int)} {B : Option Addr} {d : Nat} {sd : List Int} {B' : Option Addr} {d' : Nat} {M : List (List Int)}
theorem join_ok (h : RelRd w A c sc A' c' L) (ht : Rt sc L) (h' : RelRd w B d sd B' d' M) (ht' : Rt sd M) {most : Int} (htab : Tab w) {U : List Int} {J : List (List Int)} (hU : uni sc sd = U) (hJ : joinRows sc L sd M = J) (hm : (J.length : Int) ≤ most) :
    Calls Tryz.prog 10 #[.agg #[.slice A sc.length c, .slice A' L.length c'], .agg #[.slice B sd.length d, .slice B' M.length d'], .int .i64 most] w fun e w' => RelOk w w' e U J 0 := by
  subst hU hJ
  exact join_rt h ht h' ht' most htab (if_pos hm) (if_pos hm)
theorem join_no (h : RelRd w A c sc A' c' L) (ht : Rt sc L) (h' : RelRd w B d sd B' d' M) (ht' : Rt sd M) {most : Int} (htab : Tab w) (hm : ¬ ((joinRows sc L sd M).length : Int) ≤ most) :
    Calls Tryz.prog 10 #[.agg #[.slice A sc.length c, .slice A' L.length c'], .agg #[.slice B sd.length d, .slice B' M.length d'], .int .i64 most] w fun e w' => RelOk w w' e [] [] 9 :=
  join_rt h ht h' ht' most htab (if_neg hm) (if_neg hm)
end
section
variable {w : World} {A : Option Addr} {c : Nat} {sc : List Int} {A' : Option Addr} {c' : Nat} {L : List (List Int)} {B : Option Addr} {d : Nat} {B' : Option Addr} {d' : Nat} {M : List (List Int)}
end
end Go.Proofs.YtgpbhmcmbigbdaaGreatDoor.G
