/- The join laws' shown: a small case that must work. -/
import Derived.Test.YtnmonjincnlhiaaDoorAll
set_option linter.unusedVariables false
set_option linter.unusedSimpArgs false
namespace Go.Proofs.YtnmonjincnlhiaaDoor.G
open Go.RowKit Go.Proofs.YtnmonjincnlhiaaDoorW.PrintWords Go.Proofs.YtnmonjincnlhiaaDoorW.PrintLast Go.Proofs.YtnmonjincnlhiaaDoorW.PrintMore Go.Proofs.YtnmonjincnlhiaaDoor.PRefs

theorem s3_uni : uni [0] [1] = [0, 1] := by simp [uni, merge]
theorem s3_rows : joinRows [0] [[1], [2]] [1] [[5]] = [[1, 5], [2, 5]] := by unfold joinRows bothRow; rw [s3_uni]; decide
theorem s3_j2 : joinAt [0] [[1], [2]] [1] [[5]] 2 = ([0, 1], [[1, 5], [2, 5]]) := by rw [joinAt, s3_rows, s3_uni]; rfl
theorem s3_e2 : joinEr [0] [[1], [2]] [1] [[5]] 2 = 0 := by rw [joinEr, s3_rows]; rfl
theorem s3_j1 : joinAt [0] [[1], [2]] [1] [[5]] 1 = ([], []) := by rw [joinAt, s3_rows, s3_uni]; rfl
theorem s3_e1 : joinEr [0] [[1], [2]] [1] [[5]] 1 = 9 := by rw [joinEr, s3_rows]; rfl
theorem s3_semi : semiRows [0] [[1], [2]] [0] [[2]] = [[2]] := by decide
theorem s3_p1 : projRel [0] [[1], [2]] [0] = ([0], [[1], [2]]) := proj_self (by decide)
theorem s3_p2 : projRel [0] [[2]] [0] = ([0], [[2]]) := proj_self (by decide)
theorem s3_no : decide (projRel [0] [[1], [2]] [0] = projRel [0] [[2]] [0]) = false := by rw [s3_p1, s3_p2]; decide
theorem s3_o1 : onto [0] [1] = [] := by rw [onto_eq _ _ (by decide)]; decide
theorem s3_o2 : onto [1] [0] = [] := by rw [onto_eq _ _ (by decide)]; decide
theorem s3_yes : decide (projRel [0] [[1], [2]] [1] = projRel [1] [[5]] [0]) = true := by
  rw [projRel, projRel, s3_o1, s3_o2]; decide
theorem s3_ra : Rt [0] [[1], [2]] := ⟨by decide, by simp, by simp, by simp [InR]⟩
theorem s3_rb : Rt [1] [[5]] := ⟨by decide, by simp, by simp, by simp [InR]⟩
theorem s3_rs : Rt [0] [[2]] := ⟨by decide, by simp, by simp, by simp [InR]⟩
theorem lit_ints1 (w : World) (x : Int) : Kd.C KI (w.alloc (.cells #[.int .i64 x] 3)) (some ⟨w.heap.size, 0, none⟩) 1 [x] := lit_ints w [x] (by simp)
theorem rd_lit1 {w : World} {x y : Int} {W : World} (hW : ((w.alloc (.cells #[.int .i64 x] 3)).alloc (.cells #[.int .i64 y] 3)).alloc (.cells #[.slice (some ⟨w.heap.size + 1, 0, none⟩) 1 1] 22) = W) :
    RelRd W (some ⟨w.heap.size, 0, none⟩) 1 [x] (some ⟨w.heap.size + 1 + 1, 0, none⟩) 1 [[y]] ∧ Below w.heap.size w W := by
  subst hW
  have h1 := lit_ints1 w x
  have h2 := lit_ints1 (w.alloc (.cells #[.int .i64 x] 3)) y
  have h3 := lit_rows1 (c := 1) h2 (by simp)
  rw [World.size_alloc] at h3
  simp only [World.size_alloc, List.length_singleton] at h3
  exact ⟨⟨Kd.C_below (Kd.C_below h1 (below_alloc (Below.refl _ _) _)) (below_alloc (Below.refl _ _) _), Nat.le_refl _, h3, Nat.le_refl _⟩, below_alloc (below_alloc (below_alloc (Below.refl _ _) _) _) _⟩
theorem rd_lit2 {w : World} {x y z : Int} {W : World} (hW : (((w.alloc (.cells #[.int .i64 x] 3)).alloc (.cells #[.int .i64 y] 3)).alloc (.cells #[.int .i64 z] 3)).alloc (.cells #[.slice (some ⟨w.heap.size + 1, 0, none⟩) 1 1, .slice (some ⟨w.heap.size + 1 + 1, 0, none⟩) 1 1] 22) = W) :
    RelRd W (some ⟨w.heap.size, 0, none⟩) 1 [x] (some ⟨w.heap.size + 1 + 1 + 1, 0, none⟩) 2 [[y], [z]] ∧ Below w.heap.size w W := by
  subst hW
  have h1 := lit_ints1 w x
  have h2 := Kd.C_below (lit_ints1 (w.alloc (.cells #[.int .i64 x] 3)) y) (below_alloc (Below.refl _ _) (.cells #[.int .i64 z] 3))
  have h2' := lit_ints1 ((w.alloc (.cells #[.int .i64 x] 3)).alloc (.cells #[.int .i64 y] 3)) z
  have h3 := lit_rows2 (c := 1) (d := 1) h2 (by simp) h2' (by simp)
  simp only [World.size_alloc, List.length_singleton] at h3
  exact ⟨⟨Kd.C_below (Kd.C_below (Kd.C_below h1 (below_alloc (Below.refl _ _) _)) (below_alloc (Below.refl _ _) _)) (below_alloc (Below.refl _ _) _), Nat.le_refl _, h3, Nat.le_refl _⟩, below_alloc (below_alloc (below_alloc (below_alloc (Below.refl _ _) _) _) _) _⟩

section
variable {W : World} {A : Option Addr} {c : Nat} {A' : Option Addr} {c' : Nat} {B : Option Addr} {d : Nat} {B' : Option Addr} {d' : Nat}
theorem s3_join2 (h : RelRd W A c [0] A' c' [[1], [2]]) (h' : RelRd W B d [1] B' d' [[5]]) (ht : Tab W) :
    Calls Tryd.prog 14 #[.agg #[.slice A 1 c, .slice A' 2 c'], .agg #[.slice B 1 d, .slice B' 1 d'], .int .i64 2] W fun e w' => ∃ A c D d, e = .returned (.tuple #[.agg #[.slice A 2 c, .slice D 2 d], .int .i64 0]) ∧ Below W.heap.size W w' := by
  refine (join_rt h s3_ra h' s3_rb 2 ht s3_j2 s3_e2).mono ?_
  rintro e w' ⟨A, c, D, d, rfl, _, hb⟩
  exact ⟨A, c, D, d, rfl, hb⟩
theorem s3_join1 (h : RelRd W A c [0] A' c' [[1], [2]]) (h' : RelRd W B d [1] B' d' [[5]]) (ht : Tab W) :
    Calls Tryd.prog 14 #[.agg #[.slice A 1 c, .slice A' 2 c'], .agg #[.slice B 1 d, .slice B' 1 d'], .int .i64 1] W fun e w' => ∃ A c D d, e = .returned (.tuple #[.agg #[.slice A 0 c, .slice D 0 d], .int .i64 9]) ∧ Below W.heap.size W w' := by
  refine (join_rt h s3_ra h' s3_rb 1 ht s3_j1 s3_e1).mono ?_
  rintro e w' ⟨A, c, D, d, rfl, _, hb⟩
  exact ⟨A, c, D, d, rfl, hb⟩
theorem s3_semi2 (h : RelRd W A c [0] A' c' [[1], [2]]) (h' : RelRd W B d [0] B' d' [[2]]) (ht : Tab W) :
    Calls Tryd.prog 13 #[.agg #[.slice A 1 c, .slice A' 2 c'], .agg #[.slice B 1 d, .slice B' 1 d']] W fun e w' => ∃ A c D d, e = .returned (.agg #[.slice A 1 c, .slice D 1 d]) ∧ RelRd w' A c [0] D d [[2]] ∧ Below W.heap.size W w' := by
  refine (semi_rt h s3_ra h' s3_rs ht s3_semi).mono ?_
  rintro e w' ⟨A, c, D, d, rfl, hr, hb⟩
  exact ⟨A, c, D, d, rfl, hr, hb⟩
theorem s3_agree0 (h : RelRd W A c [0] A' c' [[1], [2]]) (h' : RelRd W B d [0] B' d' [[2]]) :
    Calls Tryd.prog 17 #[.agg #[.slice A 1 c, .slice A' 2 c'], .agg #[.slice B 1 d, .slice B' 1 d']] W fun e w' => e = .returned (.bool false) ∧ Below W.heap.size W w' := agree_rt h s3_ra h' s3_rs false s3_no
theorem s3_agree1 (h : RelRd W A c [0] A' c' [[1], [2]]) (h' : RelRd W B d [1] B' d' [[5]]) :
    Calls Tryd.prog 17 #[.agg #[.slice A 1 c, .slice A' 2 c'], .agg #[.slice B 1 d, .slice B' 1 d']] W fun e w' => e = .returned (.bool true) ∧ Below W.heap.size W w' := agree_rt h s3_ra h' s3_rb true s3_yes
end

/-- What stays in shown: two relations' boxes. -/
structure Sh3 (w : World) (A : Option Addr) (c : Nat) (A' : Option Addr) (c' : Nat) (g : Nat) (B : Option Addr) (d : Nat) (B' : Option Addr) (d' : Nat) (g' : Nat) (W : World) : Prop where
  bel : Below w.heap.size w W
  a : RelBx W g A c [0] A' c' [[1], [2]]
  b : RelBx W g' B d [1] B' d' [[5]]
theorem Sh3.step {w W W1 : World} {A : Option Addr} {c : Nat} {A' : Option Addr} {c' : Nat} {g : Nat} {B : Option Addr} {d : Nat} {B' : Option Addr} {d' g' : Nat} (h : Sh3 w A c A' c' g B d B' d' g' W) (hb : Below W.heap.size W W1) : Sh3 w A c A' c' g B d B' d' g' W1 :=
  ⟨below_then h.bel h.bel.size hb, h.a.step hb, h.b.step hb⟩

set_option maxHeartbeats 4000000 in
set_option maxRecDepth 100000 in
theorem shown3_any (w : World) (htab : Tab w) : Calls Tryd.prog 11 #[] w fun e w' => e = .returned (.bool true) ∧ Below w.heap.size w w' := by
  have HT := Aside0.mk htab
  clear htab
  obtain ⟨Wa, hWa⟩ : ∃ W, (((w.alloc (.cells #[.int .i64 0] 3)).alloc (.cells #[.int .i64 1] 3)).alloc (.cells #[.int .i64 2] 3)).alloc (.cells #[.slice (some ⟨w.heap.size + 1, 0, none⟩) 1 1, .slice (some ⟨w.heap.size + 1 + 1, 0, none⟩) 1 1] 22) = W := ⟨_, rfl⟩
  have hra := rd_lit2 hWa
  have hsa : Wa.heap.size = w.heap.size + 1 + 1 + 1 + 1 := by rw [← hWa]; simp only [World.size_alloc]
  obtain ⟨Wb, hWb⟩ : ∃ W, Wa.alloc (.cells #[.slice (some ⟨w.heap.size, 0, none⟩) 1 1, .slice (some ⟨w.heap.size + 1 + 1 + 1, 0, none⟩) 2 2] 27) = W := ⟨_, rfl⟩
  have hba : RelBx Wb Wa.heap.size (some ⟨w.heap.size, 0, none⟩) 1 [0] (some ⟨w.heap.size + 1 + 1 + 1, 0, none⟩) 2 [[1], [2]] := by rw [← hWb]; exact RelBx.new hra.1
  have hbb : Below w.heap.size w Wb := by rw [← hWb]; exact below_alloc hra.2 _
  obtain ⟨Wc, hWc⟩ : ∃ W, ((Wb.alloc (.cells #[.int .i64 1] 3)).alloc (.cells #[.int .i64 5] 3)).alloc (.cells #[.slice (some ⟨Wb.heap.size + 1, 0, none⟩) 1 1] 22) = W := ⟨_, rfl⟩
  have hrb := rd_lit1 hWc
  have hsc : Wc.heap.size = Wb.heap.size + 1 + 1 + 1 := by rw [← hWc]; simp only [World.size_alloc]
  obtain ⟨Wd, hWd⟩ : ∃ W, Wc.alloc (.cells #[.slice (some ⟨Wb.heap.size, 0, none⟩) 1 1, .slice (some ⟨Wb.heap.size + 1 + 1, 0, none⟩) 1 1] 27) = W := ⟨_, rfl⟩
  have hd : Sh3 w (some ⟨w.heap.size, 0, none⟩) 1 (some ⟨w.heap.size + 1 + 1 + 1, 0, none⟩) 2 Wa.heap.size (some ⟨Wb.heap.size, 0, none⟩) 1 (some ⟨Wb.heap.size + 1 + 1, 0, none⟩) 1 Wc.heap.size Wd := by
    rw [← hWd]
    exact ⟨below_alloc (below_then hbb hbb.size hrb.2) _, (hba.step hrb.2).step (below_alloc (Below.refl _ _) _), RelBx.new hrb.1⟩
  rw [hsa, hsc] at hd
  have H1 := Aside0.mk hd
  clear hra hba hbb hrb hd
  have q0 := blk2_c0 H1.out.a.blk
  have q1 := blk2_c1 H1.out.a.blk
  have q2 := blk2_c0 H1.out.b.blk
  have q3 := blk2_c1 H1.out.b.blk
  have hf0 := rel_field0
  have hf1 := rel_field1
  go_enter Tryd.func11, Tryd.ntmps11
  go_wp2_with (first
    | (have hgd := H5; clear hgd; go_at_call 17; refine (s3_agree1 H5.out.a.rd H5.out.b.rd).mono ?_; rintro e w6 ⟨rfl, hb6⟩; have H6 := Aside0.mk (H5.out.step hb6); clear hb6)
    | (have hgd := H4; clear hgd; go_at_call 17; refine (s3_agree0 H4.out.a.rd HS4.out.rd).mono ?_; rintro e w5 ⟨rfl, hb5⟩; have H5 := Aside0.mk (H4.out.step hb5); have qe := blk2_c0 H5.out.a.blk; have qf := blk2_c1 H5.out.a.blk; have qg := blk2_c0 H5.out.b.blk; have qh := blk2_c1 H5.out.b.blk; clear H4 hb5)
    | (have hgd := H3; clear hgd; go_at_call 13; refine (s3_semi2 (H3.out.a.rd.step HL3.out.2) HL3.out.1 (HT.out.step (below_then H3.out.bel H3.out.bel.size HL3.out.2))).mono ?_; rintro e w4 ⟨As, cs, Ds, ds, rfl, hrs, hb4⟩; have HS4 := Aside0.mk (RelBx.new hrs); have H4 := Aside0.mk (((H3.out.step HL3.out.2).step hb4).step (below_alloc (Below.refl _ _) (.cells #[.slice As 1 cs, .slice Ds 1 ds] 27))); have hr4 := (Below.heap_alloc w4 (.cells #[.slice As 1 cs, .slice Ds 1 ds] 27) _ (Nat.lt_of_lt_of_le (Nat.lt_of_lt_of_le (Array.getElem?_eq_some_iff.1 HR3.out).1 HL3.out.2.size) hb4.size)).trans ((hb4.block _ (Nat.lt_of_lt_of_le (Array.getElem?_eq_some_iff.1 HR3.out).1 HL3.out.2.size)).trans ((HL3.out.2.block _ (Array.getElem?_eq_some_iff.1 HR3.out).1).trans HR3.out)); have qi := blk2_c0 hr4; have qj := blk2_c1 hr4; have qa := blk2_c0 H4.out.a.blk; have qb := blk2_c1 H4.out.a.blk; have qc := blk2_c0 HS4.out.blk; have qd := blk2_c1 HS4.out.blk; clear H3 HR3 HL3 hr4 hb4)
    | (have hgd := H2; clear hgd; go_at_call 14; refine (s3_join1 H2.out.a.rd H2.out.b.rd (HT.out.step H2.out.bel)).mono ?_; rintro e w3 ⟨Af, cf, Df, df, rfl, hb3⟩; have H3 := Aside0.mk ((H2.out.step hb3).step (below_alloc (Below.refl _ _) (.cells #[.slice Af 0 cf, .slice Df 0 df] 27))); have q8 := blk2_c0 H3.out.a.blk; have q9 := blk2_c1 H3.out.a.blk; have hl3 := rd_lit1 (w := w3.alloc (.cells #[.slice Af 0 cf, .slice Df 0 df] 27)) (x := 0) (y := 2) rfl; simp only [World.size_alloc] at hl3; have HL3 := Aside0.mk (And.intro hl3.1 (show Below (w3.alloc (.cells #[.slice Af 0 cf, .slice Df 0 df] 27)).heap.size (w3.alloc (.cells #[.slice Af 0 cf, .slice Df 0 df] 27)) _ from by rw [World.size_alloc]; exact hl3.2)); have hk3 := (((Below.heap_alloc w2 (.cells #[.slice Ar 2 cr, .slice Dr 2 dr] 27)) w2.heap.size)); have HR3 := Aside0.mk ((Below.heap_alloc w3 (.cells #[.slice Af 0 cf, .slice Df 0 df] 27) _ (Nat.lt_of_lt_of_le (Array.getElem?_eq_some_iff.1 HR2.out).1 hb3.size)).trans ((hb3.block _ (Array.getElem?_eq_some_iff.1 HR2.out).1).trans HR2.out)); clear hk3 hl3 H2 HR2 hb3)
    | (go_at_call 14; refine (s3_join2 H1.out.a.rd H1.out.b.rd (HT.out.step H1.out.bel)).mono ?_; rintro e w2 ⟨Ar, cr, Dr, dr, rfl, hb2⟩; have H2 := Aside0.mk ((H1.out.step hb2).step (below_alloc (Below.refl _ _) (.cells #[.slice Ar 2 cr, .slice Dr 2 dr] 27))); have HR2 := Aside0.mk (heap_alloc_new w2 (.cells #[.slice Ar 2 cr, .slice Dr 2 dr] 27)); have q4 := blk2_c0 H2.out.a.blk; have q5 := blk2_c1 H2.out.a.blk; have q6 := blk2_c0 H2.out.b.blk; have q7 := blk2_c1 H2.out.b.blk; clear H1 hb2))
  go_ret
  exact ⟨rfl, H6.out.bel⟩
end Go.Proofs.YtnmonjincnlhiaaDoor.G
