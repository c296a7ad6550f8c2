/- Proved: for every input the law arboristlaw04.WeighEdges returns true and its arguments read as they did; what the program's tables hold at the start is tied to the program's text. No condition. -/
import Derived.Test.YtlmkgghpaaadhaaGreatDoorRows
import Derived.Test.YtlmkgghpaaadhaaGreatDoorCards
import Derived.Test.YtlmkgghpaaadhaaGreatDoorTie
import Derived.Test.YtlmkgghpaaadhaaGreatDoorNA
import Derived.Deep.Matrix
import Derived.ProofKit
import Derived.OpenShut
import Derived.WalkKit
import Derived.ShutString
import Derived.ChangeOld
import Derived.Below
import Derived.SevenTiedAt
import Derived.Stop.Joined
import Derived.Deep.DeepCutAuto
set_option linter.unusedVariables false
set_option linter.unusedSimpArgs false
namespace Go.Proofs.YtlmkgghpaaadhaaGreatDoor.G
open Go.RowKit Go.Proofs.YtlmkgghpaaadhaaGreatDoorW.PrintWords Go.Proofs.YtlmkgghpaaadhaaGreatDoorW.PrintLast Go.Proofs.YtlmkgghpaaadhaaGreatDoorW.PrintMore Go.Proofs.YtlmkgghpaaadhaaGreatDoor.PRefs
attribute [local go_sem] min2_mn min_two

set_option maxHeartbeats 8000000 in
set_option maxRecDepth 100000 in
theorem weighedges_yy (a : Int) (b : Int) (w : World)  (htab : Tab w) (ha : a.natAbs ≤ 4611686018427387904) (hb : b.natAbs ≤ 4611686018427387904) {S : Int} (hS : IntKind.i64.wrap (a + b) = S) (hf : (a + b).natAbs ≤ 4611686018427387904) (hs : (a.natAbs : Int) + b.natAbs ≤ 4611686018427387904) :
    Calls Tryz.prog 10 #[.int .i64 a, .int .i64 b] w fun e w' => e = .returned (.bool true) ∧ Below w.heap.size w w' := by
  have HT := Aside0.mk htab
  clear htab
  have HB0 := Aside0.mk (Below.refl w.heap.size w)
  have HA := Aside0.mk (And.intro ha hb)
  have HFS := Aside0.mk (And.intro hf hs)
  have ha1 : decide (a < -4611686018427387904) = false := decide_eq_false (by omega)
  have ha2 : decide (4611686018427387904 < a) = false := decide_eq_false (by omega)
  have hb1 : decide (b < -4611686018427387904) = false := decide_eq_false (by omega)
  have hb2 : decide (4611686018427387904 < b) = false := decide_eq_false (by omega)
  have hw := hS
  have hsz : decide (max a (wrap64 (-a)) ≤ wrap64 (4611686018427387904 - max b (wrap64 (-b)))) = true := decide_eq_true ((edge_max ha hb).2 hs)
  obtain rfl : S = a + b := by rw [← hS]; exact Go.IntWalk.i64_in _ (by omega)
  have hc1 : decide (-4611686018427387904 ≤ a + b) = true := decide_eq_true (by omega)
  have hc2 : decide (a + b ≤ 4611686018427387904) = true := decide_eq_true (by omega)
  clear ha hb hf hs hS
  go_enter Tryz.func10, Tryz.ntmps10
  go_upto_region 4 with (go_at_call 12; refine (shown4_any _ (HT.out.step HB0.out)).mono ?_; rintro e w1 ⟨rfl, hb⟩; have HB1 := Aside0.mk (below_then HB0.out HB0.out.size hb); clear hb)
  obtain ⟨W2, hW2⟩ : ∃ W2, (((w1.alloc (.cells #[] 3)).alloc (.cells #[.slice (some ⟨w1.heap.size, 0, none⟩) 0 0] 22)).alloc (.cells #[.slice none 0 0, .slice (some ⟨w1.heap.size + 1, 0, none⟩) 1 1] 31)) = W2 := ⟨_, rfl⟩
  have hu := rd_litu w1 w1.heap.size rfl
  have HB2 := Aside0.mk (show Below w.heap.size w W2 from by rw [← hW2]; exact below_alloc (below_then HB1.out HB1.out.size hu.2) _)
  have Hu2 := Aside0.mk (show RelBx W2 (w1.heap.size + 2) none 0 [] (some ⟨w1.heap.size + 1, 0, none⟩) 1 [[]] from by rw [← hW2]; have h := RelBx.new hu.1; simp only [World.size_alloc] at h; exact h)
  obtain ⟨gu, hgu⟩ : ∃ gu, w1.heap.size + 2 = gu := ⟨_, rfl⟩
  rw [hgu] at Hu2
  clear hu
  go_upto_region 5 with fail
  clear hW2 hgu
  have yu0_2 : World.cell? _ ⟨gu, 0, none⟩ = some (.slice none 0 0) := blk2_c0 Hu2.out.blk
  have yu1_2 : World.cell? _ ⟨gu, 1, none⟩ = some (.slice (some ⟨w1.heap.size + 1, 0, none⟩) 1 1) := blk2_c1 Hu2.out.blk
  go_upto_region 6 with (go_at_call 28; refine (of_rep (n := 0) (n' := 1) Hu2.out.rd unit_sm rfl rfl a).mono ?_; rintro e w3 ⟨Ax, cx, Dx, dx, Ex, ex, rfl, hM, hb⟩; have hx := below_box hb (.cells #[.slice Ax 0 cx, .slice Dx 1 dx, .slice Ex 1 ex] 37); have HB3 := Aside0.mk (below_then HB2.out HB2.out.size hx); have Hu3 := Aside0.mk (Hu2.out.step hx); have Hx3 := Aside0.mk (WBx.new (ws := [a]) hM rfl rfl rfl); have yu0_3 : World.cell? _ ⟨gu, 0, none⟩ = some (.slice none 0 0) := blk2_c0 Hu3.out.blk; have yu1_3 : World.cell? _ ⟨gu, 1, none⟩ = some (.slice (some ⟨w1.heap.size + 1, 0, none⟩) 1 1) := blk2_c1 Hu3.out.blk; have yx0_3 : World.cell? _ ⟨w3.heap.size, 0, none⟩ = some (.slice Ax 0 cx) := (blk3_c Hx3.out.blk).1; have yx1_3 : World.cell? _ ⟨w3.heap.size, 1, none⟩ = some (.slice Dx 1 dx) := (blk3_c Hx3.out.blk).2.1; have yx2_3 : World.cell? _ ⟨w3.heap.size, 2, none⟩ = some (.slice Ex 1 ex) := (blk3_c Hx3.out.blk).2.2; clear hM hb hx yu0_2 yu1_2)
  go_upto_region 7 with (go_at_call 28; refine (of_rep (n := 0) (n' := 1) Hu3.out.rd unit_sm rfl rfl b).mono ?_; rintro e w4 ⟨Ay, cy, Dy, dy, Ey, ey, rfl, hM, hb⟩; have hx := below_box hb (.cells #[.slice Ay 0 cy, .slice Dy 1 dy, .slice Ey 1 ey] 37); have HB4 := Aside0.mk (below_then HB3.out HB3.out.size hx); have Hu4 := Aside0.mk (Hu3.out.step hx); have Hx4 := Aside0.mk (Hx3.out.step hx); have Hy4 := Aside0.mk (WBx.new (ws := [b]) hM rfl rfl rfl); have yu0_4 : World.cell? _ ⟨gu, 0, none⟩ = some (.slice none 0 0) := blk2_c0 Hu4.out.blk; have yu1_4 : World.cell? _ ⟨gu, 1, none⟩ = some (.slice (some ⟨w1.heap.size + 1, 0, none⟩) 1 1) := blk2_c1 Hu4.out.blk; have yx0_4 : World.cell? _ ⟨w3.heap.size, 0, none⟩ = some (.slice Ax 0 cx) := (blk3_c Hx4.out.blk).1; have yx1_4 : World.cell? _ ⟨w3.heap.size, 1, none⟩ = some (.slice Dx 1 dx) := (blk3_c Hx4.out.blk).2.1; have yx2_4 : World.cell? _ ⟨w3.heap.size, 2, none⟩ = some (.slice Ex 1 ex) := (blk3_c Hx4.out.blk).2.2; have yy0_4 : World.cell? _ ⟨w4.heap.size, 0, none⟩ = some (.slice Ay 0 cy) := (blk3_c Hy4.out.blk).1; have yy1_4 : World.cell? _ ⟨w4.heap.size, 1, none⟩ = some (.slice Dy 1 dy) := (blk3_c Hy4.out.blk).2.1; have yy2_4 : World.cell? _ ⟨w4.heap.size, 2, none⟩ = some (.slice Ey 1 ey) := (blk3_c Hy4.out.blk).2.2; clear hM hb hx yu0_3 yu1_3 yx0_3 yx1_3 yx2_3)
  go_upto_region 8 with (go_at_call 17; refine (edge_plus_ok Hx4.out.rd Hy4.out.rd HA.out.1 HA.out.2 (HT.out.step HB4.out) (by have h := HFS.out.1; omega)).mono ?_; rintro e w5 ⟨Ap, cp, Dp, dp, Ep, ep, rfl, hM, hb⟩; obtain ⟨qp, rfl, hqp⟩ := at_int' hM.rd.w (Below.refl _ _) 0 (by decide) (by simp); simp only [Int.toNat_zero, Addr.add_zero'] at hqp; replace hqp : w5.cell? qp = some (.int .i64 (a + b)) := hqp; have hx := below_box hb (.cells #[.slice Ap 0 cp, .slice Dp 1 dp, .slice (some qp) 1 ep] 37); have HB5 := Aside0.mk (below_then HB4.out HB4.out.size hx); have Hu5 := Aside0.mk (Hu4.out.step hx); have Hx5 := Aside0.mk (Hx4.out.step hx); have Hp5 := Aside0.mk (WBx.new hM.rd rfl rfl rfl); have Hpv5 := Aside0.mk (cell_below (below_alloc (Below.refl _ _) (.cells #[.slice Ap 0 cp, .slice Dp 1 dp, .slice (some qp) 1 ep] 37)) hqp); have yu0_5 : World.cell? _ ⟨gu, 0, none⟩ = some (.slice none 0 0) := blk2_c0 Hu5.out.blk; have yu1_5 : World.cell? _ ⟨gu, 1, none⟩ = some (.slice (some ⟨w1.heap.size + 1, 0, none⟩) 1 1) := blk2_c1 Hu5.out.blk; have yx0_5 : World.cell? _ ⟨w3.heap.size, 0, none⟩ = some (.slice Ax 0 cx) := (blk3_c Hx5.out.blk).1; have yx1_5 : World.cell? _ ⟨w3.heap.size, 1, none⟩ = some (.slice Dx 1 dx) := (blk3_c Hx5.out.blk).2.1; have yx2_5 : World.cell? _ ⟨w3.heap.size, 2, none⟩ = some (.slice Ex 1 ex) := (blk3_c Hx5.out.blk).2.2; have yp0_5 : World.cell? _ ⟨w5.heap.size, 0, none⟩ = some (.slice Ap 0 cp) := (blk3_c Hp5.out.blk).1; have yp1_5 : World.cell? _ ⟨w5.heap.size, 1, none⟩ = some (.slice Dp 1 dp) := (blk3_c Hp5.out.blk).2.1; have yp2_5 : World.cell? _ ⟨w5.heap.size, 2, none⟩ = some (.slice (some qp) 1 ep) := (blk3_c Hp5.out.blk).2.2; have ypv0_5 : World.cell? _ qp = some (.int .i64 (a + b)) := Hpv5.out; clear hM hqp hb hx yu0_4 yu1_4 yx0_4 yx1_4 yx2_4 yy0_4 yy1_4 yy2_4)
  obtain ⟨W8, hW8⟩ : ∃ W8, (((((((w5.alloc (.cells #[.slice Ap 0 cp, .slice Dp 1 dp, .slice (some qp) 1 ep] 37)).alloc (.cells #[.int .i64 0] 3)).alloc (.cells #[.int .i64 0] 3)).alloc (.cells #[.int .i64 1] 3)).alloc (.cells #[.slice (some ⟨w5.heap.size + 2, 0, none⟩) 1 1, .slice (some ⟨w5.heap.size + 3, 0, none⟩) 1 1] 22)).alloc (.cells #[.int .i64 a, .int .i64 b] 2)).alloc (.cells #[.slice (some ⟨w5.heap.size + 1, 0, none⟩) 1 1, .slice (some ⟨w5.heap.size + 4, 0, none⟩) 2 2, .slice (some ⟨w5.heap.size + 5, 0, none⟩) 2 2] 37)) = W8 := ⟨_, rfl⟩
  have hu : WBx W8 (w5.heap.size + 6) (some ⟨w5.heap.size + 1, 0, none⟩) 1 1 [0] (some ⟨w5.heap.size + 4, 0, none⟩) 2 2 [[0], [1]] (some ⟨w5.heap.size + 5, 0, none⟩) 2 2 [a, b] ∧ Below (w5.alloc (.cells #[.slice Ap 0 cp, .slice Dp 1 dp, .slice (some qp) 1 ep] 37)).heap.size (w5.alloc (.cells #[.slice Ap 0 cp, .slice Dp 1 dp, .slice (some qp) 1 ep] 37)) W8 := by rw [← hW8]; exact two_lit (w5.alloc (.cells #[.slice Ap 0 cp, .slice Dp 1 dp, .slice (some qp) 1 ep] 37)) a b (w5.heap.size + 1) (World.size_alloc _ _)
  have HB6 := Aside0.mk (below_then HB5.out HB5.out.size hu.2)
  have Hl6 := Aside0.mk hu.1
  obtain ⟨gl, hgl⟩ : ∃ gl, w5.heap.size + 6 = gl := ⟨_, rfl⟩
  rw [hgl] at Hl6
  have Hu6 := Aside0.mk (Hu5.out.step hu.2)
  have Hx6 := Aside0.mk (Hx5.out.step hu.2)
  have Hp6 := Aside0.mk (Hp5.out.step hu.2)
  have Hpv6 := Aside0.mk (cell_below hu.2 Hpv5.out)
  clear hu
  go_upto_region 9 with fail
  clear hW8 hgl yu0_5 yu1_5 yx0_5 yx1_5 yx2_5 yp0_5 yp1_5 yp2_5 ypv0_5
  have yu0_6 : World.cell? _ ⟨gu, 0, none⟩ = some (.slice none 0 0) := blk2_c0 Hu6.out.blk
  have yu1_6 : World.cell? _ ⟨gu, 1, none⟩ = some (.slice (some ⟨w1.heap.size + 1, 0, none⟩) 1 1) := blk2_c1 Hu6.out.blk
  have yx0_6 : World.cell? _ ⟨w3.heap.size, 0, none⟩ = some (.slice Ax 0 cx) := (blk3_c Hx6.out.blk).1
  have yx1_6 : World.cell? _ ⟨w3.heap.size, 1, none⟩ = some (.slice Dx 1 dx) := (blk3_c Hx6.out.blk).2.1
  have yx2_6 : World.cell? _ ⟨w3.heap.size, 2, none⟩ = some (.slice Ex 1 ex) := (blk3_c Hx6.out.blk).2.2
  have yp0_6 : World.cell? _ ⟨w5.heap.size, 0, none⟩ = some (.slice Ap 0 cp) := (blk3_c Hp6.out.blk).1
  have yp1_6 : World.cell? _ ⟨w5.heap.size, 1, none⟩ = some (.slice Dp 1 dp) := (blk3_c Hp6.out.blk).2.1
  have yp2_6 : World.cell? _ ⟨w5.heap.size, 2, none⟩ = some (.slice (some qp) 1 ep) := (blk3_c Hp6.out.blk).2.2
  have ypv0_6 : World.cell? _ qp = some (.int .i64 (a + b)) := Hpv6.out
  have yl0_6 : World.cell? _ ⟨gl, 0, none⟩ = some (.slice (some ⟨w5.heap.size + 1, 0, none⟩) 1 1) := (blk3_c Hl6.out.blk).1
  have yl1_6 : World.cell? _ ⟨gl, 1, none⟩ = some (.slice (some ⟨w5.heap.size + 4, 0, none⟩) 2 2) := (blk3_c Hl6.out.blk).2.1
  have yl2_6 : World.cell? _ ⟨gl, 2, none⟩ = some (.slice (some ⟨w5.heap.size + 5, 0, none⟩) 2 2) := (blk3_c Hl6.out.blk).2.2
  go_upto_region 12 with (go_at_call 25; refine (edge_sum_ok Hl6.out.rd HA.out.1 HA.out.2 (by have h := HFS.out.2; omega)).mono ?_; rintro e w7 ⟨As, cs, Ds, ds, Es, es, rfl, hM, hb⟩; obtain ⟨qs, rfl, hqs⟩ := at_int' hM.rd.w (Below.refl _ _) 0 (by decide) (by simp); simp only [Int.toNat_zero, Addr.add_zero'] at hqs; replace hqs : w7.cell? qs = some (.int .i64 (a + b)) := hqs; have hx := below_box hb (.cells #[.slice As 0 cs, .slice Ds 1 ds, .slice (some qs) 1 es] 37); have HB7 := Aside0.mk (below_then HB6.out HB6.out.size hx); have Hu7 := Aside0.mk (Hu6.out.step hx); have Hx7 := Aside0.mk (Hx6.out.step hx); have Hp7 := Aside0.mk (Hp6.out.step hx); have Hpv7 := Aside0.mk (cell_below hx Hpv6.out); have Hs7 := Aside0.mk (WBx.new hM.rd rfl rfl rfl); have Hsv7 := Aside0.mk (cell_below (below_alloc (Below.refl _ _) (.cells #[.slice As 0 cs, .slice Ds 1 ds, .slice (some qs) 1 es] 37)) hqs); have yu0_7 : World.cell? _ ⟨gu, 0, none⟩ = some (.slice none 0 0) := blk2_c0 Hu7.out.blk; have yu1_7 : World.cell? _ ⟨gu, 1, none⟩ = some (.slice (some ⟨w1.heap.size + 1, 0, none⟩) 1 1) := blk2_c1 Hu7.out.blk; have yx0_7 : World.cell? _ ⟨w3.heap.size, 0, none⟩ = some (.slice Ax 0 cx) := (blk3_c Hx7.out.blk).1; have yx1_7 : World.cell? _ ⟨w3.heap.size, 1, none⟩ = some (.slice Dx 1 dx) := (blk3_c Hx7.out.blk).2.1; have yx2_7 : World.cell? _ ⟨w3.heap.size, 2, none⟩ = some (.slice Ex 1 ex) := (blk3_c Hx7.out.blk).2.2; have yp0_7 : World.cell? _ ⟨w5.heap.size, 0, none⟩ = some (.slice Ap 0 cp) := (blk3_c Hp7.out.blk).1; have yp1_7 : World.cell? _ ⟨w5.heap.size, 1, none⟩ = some (.slice Dp 1 dp) := (blk3_c Hp7.out.blk).2.1; have yp2_7 : World.cell? _ ⟨w5.heap.size, 2, none⟩ = some (.slice (some qp) 1 ep) := (blk3_c Hp7.out.blk).2.2; have ypv0_7 : World.cell? _ qp = some (.int .i64 (a + b)) := Hpv7.out; have ys0_7 : World.cell? _ ⟨w7.heap.size, 0, none⟩ = some (.slice As 0 cs) := (blk3_c Hs7.out.blk).1; have ys1_7 : World.cell? _ ⟨w7.heap.size, 1, none⟩ = some (.slice Ds 1 ds) := (blk3_c Hs7.out.blk).2.1; have ys2_7 : World.cell? _ ⟨w7.heap.size, 2, none⟩ = some (.slice (some qs) 1 es) := (blk3_c Hs7.out.blk).2.2; have ysv0_7 : World.cell? _ qs = some (.int .i64 (a + b)) := Hsv7.out; clear hM hqs hb hx yu0_6 yu1_6 yx0_6 yx1_6 yx2_6 yp0_6 yp1_6 yp2_6 ypv0_6 yl0_6 yl1_6 yl2_6)
  go_upto_region 17 with fail
  clear yu0_7 yu1_7 yx0_7 yx1_7 yx2_7 yp0_7 yp1_7 yp2_7 ypv0_7 ys0_7 ys1_7 ys2_7 ysv0_7
  generalize w7.alloc (.cells #[.slice As 0 cs, .slice Ds 1 ds, .slice (some qs) 1 es] 37) = WA at HB7 Hx7 Hu7 ⊢
  generalize w3.heap.size = gx at Hx7 ⊢
  go_cut [17, 18] (fun s17 s18 wx => ∃ (g : Nat) (A : Option Addr) (c : Nat) (D : Option Addr) (d : Nat) (E : Option Addr) (e : Nat), s17 = .pointer (some ⟨g, 0, none⟩) ∧ s18 = .int .i64 0 ∧ Aside0 (WBx wx g A c 0 [] D d 1 [[]] E e 1 [a] ∧ Below WA.heap.size WA wx))
  case first =>
    have HST := Aside0.mk (show ∀ {W W1 : World}, (W.cell? ⟨gu, 0, none⟩ = some (.slice none 0 0) ∧ W.cell? ⟨gu, 1, none⟩ = some (.slice (some ⟨w1.heap.size + 1, 0, none⟩) 1 1) ∧ W.cell? ⟨gx, 0, none⟩ = some (.slice Ax 0 cx) ∧ W.cell? ⟨gx, 1, none⟩ = some (.slice Dx 1 dx) ∧ W.cell? ⟨gx, 2, none⟩ = some (.slice Ex 1 ex) ∧ Below WA.heap.size WA W) → Below W.heap.size W W1 → (W1.cell? ⟨gu, 0, none⟩ = some (.slice none 0 0) ∧ W1.cell? ⟨gu, 1, none⟩ = some (.slice (some ⟨w1.heap.size + 1, 0, none⟩) 1 1) ∧ W1.cell? ⟨gx, 0, none⟩ = some (.slice Ax 0 cx) ∧ W1.cell? ⟨gx, 1, none⟩ = some (.slice Dx 1 dx) ∧ W1.cell? ⟨gx, 2, none⟩ = some (.slice Ex 1 ex) ∧ Below WA.heap.size WA W1) from fun {W W1} h hb => ⟨(hb.cell (World.block_lt_of_cell? W _ h.1)).trans h.1, (hb.cell (World.block_lt_of_cell? W _ h.2.1)).trans h.2.1, (hb.cell (World.block_lt_of_cell? W _ h.2.2.1)).trans h.2.2.1, (hb.cell (World.block_lt_of_cell? W _ h.2.2.2.1)).trans h.2.2.2.1, (hb.cell (World.block_lt_of_cell? W _ h.2.2.2.2.1)).trans h.2.2.2.2.1, below_then h.2.2.2.2.2 h.2.2.2.2.2.size hb⟩)
    have HSE := Aside0.mk (show ∀ {W : World} {g : Nat} (i : Nat) (u : Value), (W.cell? ⟨gu, 0, none⟩ = some (.slice none 0 0) ∧ W.cell? ⟨gu, 1, none⟩ = some (.slice (some ⟨w1.heap.size + 1, 0, none⟩) 1 1) ∧ W.cell? ⟨gx, 0, none⟩ = some (.slice Ax 0 cx) ∧ W.cell? ⟨gx, 1, none⟩ = some (.slice Dx 1 dx) ∧ W.cell? ⟨gx, 2, none⟩ = some (.slice Ex 1 ex) ∧ Below WA.heap.size WA W) → WA.heap.size ≤ g → ((W.setCell ⟨g, i, none⟩ u).cell? ⟨gu, 0, none⟩ = some (.slice none 0 0) ∧ (W.setCell ⟨g, i, none⟩ u).cell? ⟨gu, 1, none⟩ = some (.slice (some ⟨w1.heap.size + 1, 0, none⟩) 1 1) ∧ (W.setCell ⟨g, i, none⟩ u).cell? ⟨gx, 0, none⟩ = some (.slice Ax 0 cx) ∧ (W.setCell ⟨g, i, none⟩ u).cell? ⟨gx, 1, none⟩ = some (.slice Dx 1 dx) ∧ (W.setCell ⟨g, i, none⟩ u).cell? ⟨gx, 2, none⟩ = some (.slice Ex 1 ex) ∧ Below WA.heap.size WA (W.setCell ⟨g, i, none⟩ u)) from fun {W g} i u h hg => ⟨cell_set_ne h.1 (by have hl := (Array.getElem?_eq_some_iff.1 Hu7.out.blk).1; show (gu : Nat) ≠ g; omega) i u, cell_set_ne h.2.1 (by have hl := (Array.getElem?_eq_some_iff.1 Hu7.out.blk).1; show (gu : Nat) ≠ g; omega) i u, cell_set_ne h.2.2.1 (by have hl := (Array.getElem?_eq_some_iff.1 Hx7.out.blk).1; show (gx : Nat) ≠ g; omega) i u, cell_set_ne h.2.2.2.1 (by have hl := (Array.getElem?_eq_some_iff.1 Hx7.out.blk).1; show (gx : Nat) ≠ g; omega) i u, cell_set_ne h.2.2.2.2.1 (by have hl := (Array.getElem?_eq_some_iff.1 Hx7.out.blk).1; show (gx : Nat) ≠ g; omega) i u, h.2.2.2.2.2.setCell (p := ⟨g, i, none⟩) hg u⟩)
    have HSB := Aside0.mk (show ∀ {W : World}, (W.cell? ⟨gu, 0, none⟩ = some (.slice none 0 0) ∧ W.cell? ⟨gu, 1, none⟩ = some (.slice (some ⟨w1.heap.size + 1, 0, none⟩) 1 1) ∧ W.cell? ⟨gx, 0, none⟩ = some (.slice Ax 0 cx) ∧ W.cell? ⟨gx, 1, none⟩ = some (.slice Dx 1 dx) ∧ W.cell? ⟨gx, 2, none⟩ = some (.slice Ex 1 ex) ∧ Below WA.heap.size WA W) → Below WA.heap.size WA W from fun {W} h => h.2.2.2.2.2)
    have HS0A := Aside0.mk (show (WA.cell? ⟨gu, 0, none⟩ = some (.slice none 0 0) ∧ WA.cell? ⟨gu, 1, none⟩ = some (.slice (some ⟨w1.heap.size + 1, 0, none⟩) 1 1) ∧ WA.cell? ⟨gx, 0, none⟩ = some (.slice Ax 0 cx) ∧ WA.cell? ⟨gx, 1, none⟩ = some (.slice Dx 1 dx) ∧ WA.cell? ⟨gx, 2, none⟩ = some (.slice Ex 1 ex) ∧ Below WA.heap.size WA WA) from ⟨blk2_c0 Hu7.out.blk, blk2_c1 Hu7.out.blk, (blk3_c Hx7.out.blk).1, (blk3_c Hx7.out.blk).2.1, (blk3_c Hx7.out.blk).2.2, Below.refl _ _⟩)
    have HSDA := Aside0.mk (HST.out HS0A.out (below_drew (Below.refl _ _)))
    have qq0 := HS0A.out.1
    have qq1 := HS0A.out.2.1
    have qq2 := HS0A.out.2.2.1
    have qq3 := HS0A.out.2.2.2.1
    have qq4 := HS0A.out.2.2.2.2.1
    go_region_held3 (fun W => W.cell? ⟨gu, 0, none⟩ = some (.slice none 0 0) ∧ W.cell? ⟨gu, 1, none⟩ = some (.slice (some ⟨w1.heap.size + 1, 0, none⟩) 1 1) ∧ W.cell? ⟨gx, 0, none⟩ = some (.slice Ax 0 cx) ∧ W.cell? ⟨gx, 1, none⟩ = some (.slice Dx 1 dx) ∧ W.cell? ⟨gx, 2, none⟩ = some (.slice Ex 1 ex) ∧ Below WA.heap.size WA W)
      (first | with_reducible exact HS9A.out | with_reducible exact HS8A.out | with_reducible exact HSDA.out | with_reducible exact HS0A.out | with_reducible exact HST.out HS9A.out (below_alloc (Below.refl _ _) _) | with_reducible exact HST.out HS8A.out (below_alloc (Below.refl _ _) _) | with_reducible exact HST.out (by assumption) (below_alloc (Below.refl _ _) _) | with_reducible exact HST.out (by assumption) (below_drew (Below.refl _ _)) | with_reducible exact HSE.out _ _ (HSE.out _ _ (HSE.out _ _ HS9A.out (by first | assumption | exact Nat.le_refl _)) (by first | assumption | exact Nat.le_refl _)) (by first | assumption | exact Nat.le_refl _))
      (first
        | (have hgd := HS8A; clear hgd; go_at_call 15; refine (edge_one_c (Hx7.out.rd.step (HSB.out (by assumption))) (HQ.out.step (by first | exact Below.refl _ _ | exact below_drew (Below.refl _ _) | exact below_alloc (Below.refl _ _) _)) HA.out.1 (HT.out.step (below_then HB7.out HB7.out.size (HSB.out (by assumption))))).mono ?_; rintro e w9 ⟨A3, c3, D3, d3, E3, e3, rfl, hm3, hb9⟩; have hS9 := HST.out (by assumption) hb9; have HS9A := Aside0.mk hS9; have HJ := Aside0.mk (And.intro hm3 hb9); have hjb := hb9.size; have hg9 : WA.heap.size ≤ w9.heap.size := (HSB.out hS9).size; (first | (have hbk := (hb9.block _ (Array.getElem?_eq_some_iff.1 hbk).1).trans hbk) | (have hbk := (hb9.block w8.heap.size (by simp)).trans (heap_alloc_new w8 (.cells #[.slice none 0 0, .slice none 0 0, .slice none 0 0] 37)); have hbl : w8.heap.size < (w8.alloc (.cells #[.slice none 0 0, .slice none 0 0, .slice none 0 0] 37)).heap.size := by simp) | skip); try (obtain ⟨⟨z0, z1⟩, ⟨z2, z3⟩, ⟨z4, z5⟩⟩ := blk3_put hbk (.slice A3 0 c3) (.slice D3 1 d3) (.slice E3 1 e3); have HP := Aside0.mk (And.intro (box_put3 (n := 0) (n' := 1) (m := 1) hbk hm3 (by first | exact hbl | (simp; done)) rfl rfl rfl) (HSB.out (HSE.out 2 (.slice E3 1 e3) (HSE.out 1 (.slice D3 1 d3) (HSE.out 0 (.slice A3 0 c3) hS9 (at_leW hbk (by first | exact Nat.le_refl _ | assumption))) (at_leW hbk (by first | exact Nat.le_refl _ | assumption))) (at_leW hbk (by first | exact Nat.le_refl _ | assumption))))); clear hbk); clear hm3 hb9; clear hS9)
        | (go_at_call 28; refine (of_rep (n := 0) (n' := 1) (Hu7.out.rd.step (HSB.out (by assumption))) unit_sm rfl rfl 1).mono ?_; rintro e w8 ⟨Aq, cq, Dq, dq, Eq, eq, rfl, hq, hb8⟩; have hS8 := HST.out (by assumption) hb8; have HS8A := Aside0.mk hS8; have HQ := Aside0.mk hq; have hg8 : WA.heap.size ≤ w8.heap.size := (HSB.out hS8).size; try (have hbk := (hb8.block WA.heap.size (by simp)).trans (heap_alloc_new WA.drew (.cells #[.slice none 0 0, .slice none 0 0, .slice none 0 0] 37)); have hbl := (Array.getElem?_eq_some_iff.1 hbk).1); clear hq hb8; clear hS8))
    all_goals
      first
      | (have hgd := HP; clear hgd; (try (go_wp2_with fail)); go_meet; case rel => exact ⟨_, _, _, _, _, _, _, rfl, rfl, ⟨HP.out.1, HP.out.2⟩⟩)
      | ((try (go_wp2_with fail)); go_meet; case rel => exact ⟨w9.heap.size, _, _, _, _, _, _, rfl, rfl, ⟨WBx.new HJ.out.1.rd rfl rfl rfl, below_alloc (HSB.out HS9A.out) _⟩⟩)
  case rest =>
    obtain ⟨gt, At, ct, Dt, dt, Et, et, rfl, rfl, HR⟩ := hcut
    obtain ⟨qt, rfl, hqt⟩ := at_int' HR.out.1.rd.w (Below.refl _ _) 0 (by decide) (by simp)
    simp only [Int.toNat_zero, Addr.add_zero'] at hqt
    replace hqt : World.cell? _ qt = some (.int .i64 a) := hqt
    have HBt := Aside0.mk (below_then HB7.out HB7.out.size HR.out.2)
    have Hut := Aside0.mk (Hu7.out.step HR.out.2)
    have yt0 : World.cell? _ ⟨gt, 0, none⟩ = some (.slice At 0 ct) := (blk3_c HR.out.1.blk).1
    have yt1 : World.cell? _ ⟨gt, 1, none⟩ = some (.slice Dt 1 dt) := (blk3_c HR.out.1.blk).2.1
    have yt2 : World.cell? _ ⟨gt, 2, none⟩ = some (.slice (some qt) 1 et) := (blk3_c HR.out.1.blk).2.2
    have yu0 : World.cell? _ ⟨gu, 0, none⟩ = some (.slice none 0 0) := blk2_c0 Hut.out.blk
    have yu1 : World.cell? _ ⟨gu, 1, none⟩ = some (.slice (some ⟨w1.heap.size + 1, 0, none⟩) 1 1) := blk2_c1 Hut.out.blk
    go_wp2_with (go_at_call 29; refine (refsame_any HR.out.1.rd.rel Hut.out.rd (by simp) (by simp) (by simp) (by simp) true (by simp)).mono ?_; rintro e w10 ⟨rfl, hb⟩; have HB10 := Aside0.mk (below_then HBt.out HBt.out.size hb); clear hb)
    go_ret
    exact ⟨rfl, HB10.out⟩
set_option maxHeartbeats 8000000 in
set_option maxRecDepth 100000 in
theorem weighedges_yn (a : Int) (b : Int) (w : World)  (htab : Tab w) (ha : a.natAbs ≤ 4611686018427387904) (hb : b.natAbs ≤ 4611686018427387904) {S : Int} (hS : IntKind.i64.wrap (a + b) = S) (hf : (a + b).natAbs ≤ 4611686018427387904) (hs : ¬ (a.natAbs : Int) + b.natAbs ≤ 4611686018427387904) :
    Calls Tryz.prog 10 #[.int .i64 a, .int .i64 b] w fun e w' => e = .returned (.bool true) ∧ Below w.heap.size w w' := by
  have HT := Aside0.mk htab
  clear htab
  have HB0 := Aside0.mk (Below.refl w.heap.size w)
  have HA := Aside0.mk (And.intro ha hb)
  have HFS := Aside0.mk (And.intro hf hs)
  have ha1 : decide (a < -4611686018427387904) = false := decide_eq_false (by omega)
  have ha2 : decide (4611686018427387904 < a) = false := decide_eq_false (by omega)
  have hb1 : decide (b < -4611686018427387904) = false := decide_eq_false (by omega)
  have hb2 : decide (4611686018427387904 < b) = false := decide_eq_false (by omega)
  have hw := hS
  have hsz : decide (max a (wrap64 (-a)) ≤ wrap64 (4611686018427387904 - max b (wrap64 (-b)))) = false := decide_eq_false (fun h => hs ((edge_max ha hb).1 h))
  obtain rfl : S = a + b := by rw [← hS]; exact Go.IntWalk.i64_in _ (by omega)
  have hc1 : decide (-4611686018427387904 ≤ a + b) = true := decide_eq_true (by omega)
  have hc2 : decide (a + b ≤ 4611686018427387904) = true := decide_eq_true (by omega)
  clear ha hb hf hs hS
  go_enter Tryz.func10, Tryz.ntmps10
  go_upto_region 4 with (go_at_call 12; refine (shown4_any _ (HT.out.step HB0.out)).mono ?_; rintro e w1 ⟨rfl, hb⟩; have HB1 := Aside0.mk (below_then HB0.out HB0.out.size hb); clear hb)
  obtain ⟨W2, hW2⟩ : ∃ W2, (((w1.alloc (.cells #[] 3)).alloc (.cells #[.slice (some ⟨w1.heap.size, 0, none⟩) 0 0] 22)).alloc (.cells #[.slice none 0 0, .slice (some ⟨w1.heap.size + 1, 0, none⟩) 1 1] 31)) = W2 := ⟨_, rfl⟩
  have hu := rd_litu w1 w1.heap.size rfl
  have HB2 := Aside0.mk (show Below w.heap.size w W2 from by rw [← hW2]; exact below_alloc (below_then HB1.out HB1.out.size hu.2) _)
  have Hu2 := Aside0.mk (show RelBx W2 (w1.heap.size + 2) none 0 [] (some ⟨w1.heap.size + 1, 0, none⟩) 1 [[]] from by rw [← hW2]; have h := RelBx.new hu.1; simp only [World.size_alloc] at h; exact h)
  obtain ⟨gu, hgu⟩ : ∃ gu, w1.heap.size + 2 = gu := ⟨_, rfl⟩
  rw [hgu] at Hu2
  clear hu
  go_upto_region 5 with fail
  clear hW2 hgu
  have yu0_2 : World.cell? _ ⟨gu, 0, none⟩ = some (.slice none 0 0) := blk2_c0 Hu2.out.blk
  have yu1_2 : World.cell? _ ⟨gu, 1, none⟩ = some (.slice (some ⟨w1.heap.size + 1, 0, none⟩) 1 1) := blk2_c1 Hu2.out.blk
  go_upto_region 6 with (go_at_call 28; refine (of_rep (n := 0) (n' := 1) Hu2.out.rd unit_sm rfl rfl a).mono ?_; rintro e w3 ⟨Ax, cx, Dx, dx, Ex, ex, rfl, hM, hb⟩; have hx := below_box hb (.cells #[.slice Ax 0 cx, .slice Dx 1 dx, .slice Ex 1 ex] 37); have HB3 := Aside0.mk (below_then HB2.out HB2.out.size hx); have Hu3 := Aside0.mk (Hu2.out.step hx); have Hx3 := Aside0.mk (WBx.new (ws := [a]) hM rfl rfl rfl); have yu0_3 : World.cell? _ ⟨gu, 0, none⟩ = some (.slice none 0 0) := blk2_c0 Hu3.out.blk; have yu1_3 : World.cell? _ ⟨gu, 1, none⟩ = some (.slice (some ⟨w1.heap.size + 1, 0, none⟩) 1 1) := blk2_c1 Hu3.out.blk; have yx0_3 : World.cell? _ ⟨w3.heap.size, 0, none⟩ = some (.slice Ax 0 cx) := (blk3_c Hx3.out.blk).1; have yx1_3 : World.cell? _ ⟨w3.heap.size, 1, none⟩ = some (.slice Dx 1 dx) := (blk3_c Hx3.out.blk).2.1; have yx2_3 : World.cell? _ ⟨w3.heap.size, 2, none⟩ = some (.slice Ex 1 ex) := (blk3_c Hx3.out.blk).2.2; clear hM hb hx yu0_2 yu1_2)
  go_upto_region 7 with (go_at_call 28; refine (of_rep (n := 0) (n' := 1) Hu3.out.rd unit_sm rfl rfl b).mono ?_; rintro e w4 ⟨Ay, cy, Dy, dy, Ey, ey, rfl, hM, hb⟩; have hx := below_box hb (.cells #[.slice Ay 0 cy, .slice Dy 1 dy, .slice Ey 1 ey] 37); have HB4 := Aside0.mk (below_then HB3.out HB3.out.size hx); have Hu4 := Aside0.mk (Hu3.out.step hx); have Hx4 := Aside0.mk (Hx3.out.step hx); have Hy4 := Aside0.mk (WBx.new (ws := [b]) hM rfl rfl rfl); have yu0_4 : World.cell? _ ⟨gu, 0, none⟩ = some (.slice none 0 0) := blk2_c0 Hu4.out.blk; have yu1_4 : World.cell? _ ⟨gu, 1, none⟩ = some (.slice (some ⟨w1.heap.size + 1, 0, none⟩) 1 1) := blk2_c1 Hu4.out.blk; have yx0_4 : World.cell? _ ⟨w3.heap.size, 0, none⟩ = some (.slice Ax 0 cx) := (blk3_c Hx4.out.blk).1; have yx1_4 : World.cell? _ ⟨w3.heap.size, 1, none⟩ = some (.slice Dx 1 dx) := (blk3_c Hx4.out.blk).2.1; have yx2_4 : World.cell? _ ⟨w3.heap.size, 2, none⟩ = some (.slice Ex 1 ex) := (blk3_c Hx4.out.blk).2.2; have yy0_4 : World.cell? _ ⟨w4.heap.size, 0, none⟩ = some (.slice Ay 0 cy) := (blk3_c Hy4.out.blk).1; have yy1_4 : World.cell? _ ⟨w4.heap.size, 1, none⟩ = some (.slice Dy 1 dy) := (blk3_c Hy4.out.blk).2.1; have yy2_4 : World.cell? _ ⟨w4.heap.size, 2, none⟩ = some (.slice Ey 1 ey) := (blk3_c Hy4.out.blk).2.2; clear hM hb hx yu0_3 yu1_3 yx0_3 yx1_3 yx2_3)
  go_upto_region 8 with (go_at_call 17; refine (edge_plus_ok Hx4.out.rd Hy4.out.rd HA.out.1 HA.out.2 (HT.out.step HB4.out) (by have h := HFS.out.1; omega)).mono ?_; rintro e w5 ⟨Ap, cp, Dp, dp, Ep, ep, rfl, hM, hb⟩; obtain ⟨qp, rfl, hqp⟩ := at_int' hM.rd.w (Below.refl _ _) 0 (by decide) (by simp); simp only [Int.toNat_zero, Addr.add_zero'] at hqp; replace hqp : w5.cell? qp = some (.int .i64 (a + b)) := hqp; have hx := below_box hb (.cells #[.slice Ap 0 cp, .slice Dp 1 dp, .slice (some qp) 1 ep] 37); have HB5 := Aside0.mk (below_then HB4.out HB4.out.size hx); have Hu5 := Aside0.mk (Hu4.out.step hx); have Hx5 := Aside0.mk (Hx4.out.step hx); have Hp5 := Aside0.mk (WBx.new hM.rd rfl rfl rfl); have Hpv5 := Aside0.mk (cell_below (below_alloc (Below.refl _ _) (.cells #[.slice Ap 0 cp, .slice Dp 1 dp, .slice (some qp) 1 ep] 37)) hqp); have yu0_5 : World.cell? _ ⟨gu, 0, none⟩ = some (.slice none 0 0) := blk2_c0 Hu5.out.blk; have yu1_5 : World.cell? _ ⟨gu, 1, none⟩ = some (.slice (some ⟨w1.heap.size + 1, 0, none⟩) 1 1) := blk2_c1 Hu5.out.blk; have yx0_5 : World.cell? _ ⟨w3.heap.size, 0, none⟩ = some (.slice Ax 0 cx) := (blk3_c Hx5.out.blk).1; have yx1_5 : World.cell? _ ⟨w3.heap.size, 1, none⟩ = some (.slice Dx 1 dx) := (blk3_c Hx5.out.blk).2.1; have yx2_5 : World.cell? _ ⟨w3.heap.size, 2, none⟩ = some (.slice Ex 1 ex) := (blk3_c Hx5.out.blk).2.2; have yp0_5 : World.cell? _ ⟨w5.heap.size, 0, none⟩ = some (.slice Ap 0 cp) := (blk3_c Hp5.out.blk).1; have yp1_5 : World.cell? _ ⟨w5.heap.size, 1, none⟩ = some (.slice Dp 1 dp) := (blk3_c Hp5.out.blk).2.1; have yp2_5 : World.cell? _ ⟨w5.heap.size, 2, none⟩ = some (.slice (some qp) 1 ep) := (blk3_c Hp5.out.blk).2.2; have ypv0_5 : World.cell? _ qp = some (.int .i64 (a + b)) := Hpv5.out; clear hM hqp hb hx yu0_4 yu1_4 yx0_4 yx1_4 yx2_4 yy0_4 yy1_4 yy2_4)
  obtain ⟨W8, hW8⟩ : ∃ W8, (((((((w5.alloc (.cells #[.slice Ap 0 cp, .slice Dp 1 dp, .slice (some qp) 1 ep] 37)).alloc (.cells #[.int .i64 0] 3)).alloc (.cells #[.int .i64 0] 3)).alloc (.cells #[.int .i64 1] 3)).alloc (.cells #[.slice (some ⟨w5.heap.size + 2, 0, none⟩) 1 1, .slice (some ⟨w5.heap.size + 3, 0, none⟩) 1 1] 22)).alloc (.cells #[.int .i64 a, .int .i64 b] 2)).alloc (.cells #[.slice (some ⟨w5.heap.size + 1, 0, none⟩) 1 1, .slice (some ⟨w5.heap.size + 4, 0, none⟩) 2 2, .slice (some ⟨w5.heap.size + 5, 0, none⟩) 2 2] 37)) = W8 := ⟨_, rfl⟩
  have hu : WBx W8 (w5.heap.size + 6) (some ⟨w5.heap.size + 1, 0, none⟩) 1 1 [0] (some ⟨w5.heap.size + 4, 0, none⟩) 2 2 [[0], [1]] (some ⟨w5.heap.size + 5, 0, none⟩) 2 2 [a, b] ∧ Below (w5.alloc (.cells #[.slice Ap 0 cp, .slice Dp 1 dp, .slice (some qp) 1 ep] 37)).heap.size (w5.alloc (.cells #[.slice Ap 0 cp, .slice Dp 1 dp, .slice (some qp) 1 ep] 37)) W8 := by rw [← hW8]; exact two_lit (w5.alloc (.cells #[.slice Ap 0 cp, .slice Dp 1 dp, .slice (some qp) 1 ep] 37)) a b (w5.heap.size + 1) (World.size_alloc _ _)
  have HB6 := Aside0.mk (below_then HB5.out HB5.out.size hu.2)
  have Hl6 := Aside0.mk hu.1
  obtain ⟨gl, hgl⟩ : ∃ gl, w5.heap.size + 6 = gl := ⟨_, rfl⟩
  rw [hgl] at Hl6
  have Hu6 := Aside0.mk (Hu5.out.step hu.2)
  have Hx6 := Aside0.mk (Hx5.out.step hu.2)
  have Hp6 := Aside0.mk (Hp5.out.step hu.2)
  have Hpv6 := Aside0.mk (cell_below hu.2 Hpv5.out)
  clear hu
  go_upto_region 9 with fail
  clear hW8 hgl yu0_5 yu1_5 yx0_5 yx1_5 yx2_5 yp0_5 yp1_5 yp2_5 ypv0_5
  have yu0_6 : World.cell? _ ⟨gu, 0, none⟩ = some (.slice none 0 0) := blk2_c0 Hu6.out.blk
  have yu1_6 : World.cell? _ ⟨gu, 1, none⟩ = some (.slice (some ⟨w1.heap.size + 1, 0, none⟩) 1 1) := blk2_c1 Hu6.out.blk
  have yx0_6 : World.cell? _ ⟨w3.heap.size, 0, none⟩ = some (.slice Ax 0 cx) := (blk3_c Hx6.out.blk).1
  have yx1_6 : World.cell? _ ⟨w3.heap.size, 1, none⟩ = some (.slice Dx 1 dx) := (blk3_c Hx6.out.blk).2.1
  have yx2_6 : World.cell? _ ⟨w3.heap.size, 2, none⟩ = some (.slice Ex 1 ex) := (blk3_c Hx6.out.blk).2.2
  have yp0_6 : World.cell? _ ⟨w5.heap.size, 0, none⟩ = some (.slice Ap 0 cp) := (blk3_c Hp6.out.blk).1
  have yp1_6 : World.cell? _ ⟨w5.heap.size, 1, none⟩ = some (.slice Dp 1 dp) := (blk3_c Hp6.out.blk).2.1
  have yp2_6 : World.cell? _ ⟨w5.heap.size, 2, none⟩ = some (.slice (some qp) 1 ep) := (blk3_c Hp6.out.blk).2.2
  have ypv0_6 : World.cell? _ qp = some (.int .i64 (a + b)) := Hpv6.out
  have yl0_6 : World.cell? _ ⟨gl, 0, none⟩ = some (.slice (some ⟨w5.heap.size + 1, 0, none⟩) 1 1) := (blk3_c Hl6.out.blk).1
  have yl1_6 : World.cell? _ ⟨gl, 1, none⟩ = some (.slice (some ⟨w5.heap.size + 4, 0, none⟩) 2 2) := (blk3_c Hl6.out.blk).2.1
  have yl2_6 : World.cell? _ ⟨gl, 2, none⟩ = some (.slice (some ⟨w5.heap.size + 5, 0, none⟩) 2 2) := (blk3_c Hl6.out.blk).2.2
  go_upto_region 12 with (go_at_call 25; refine (edge_sum_no Hl6.out.rd HA.out.1 HA.out.2 (by have h := HFS.out.2; omega)).mono ?_; rintro e w7 ⟨As, cs, Ds, ds, Es, es, rfl, hM, hb⟩; have hx := below_box hb (.cells #[.slice As 0 cs, .slice Ds 0 ds, .slice Es 0 es] 37); have HB7 := Aside0.mk (below_then HB6.out HB6.out.size hx); have Hu7 := Aside0.mk (Hu6.out.step hx); have Hx7 := Aside0.mk (Hx6.out.step hx); have Hp7 := Aside0.mk (Hp6.out.step hx); have Hpv7 := Aside0.mk (cell_below hx Hpv6.out); have Hs7 := Aside0.mk (WBx.new hM.rd rfl rfl rfl); have yu0_7 : World.cell? _ ⟨gu, 0, none⟩ = some (.slice none 0 0) := blk2_c0 Hu7.out.blk; have yu1_7 : World.cell? _ ⟨gu, 1, none⟩ = some (.slice (some ⟨w1.heap.size + 1, 0, none⟩) 1 1) := blk2_c1 Hu7.out.blk; have yx0_7 : World.cell? _ ⟨w3.heap.size, 0, none⟩ = some (.slice Ax 0 cx) := (blk3_c Hx7.out.blk).1; have yx1_7 : World.cell? _ ⟨w3.heap.size, 1, none⟩ = some (.slice Dx 1 dx) := (blk3_c Hx7.out.blk).2.1; have yx2_7 : World.cell? _ ⟨w3.heap.size, 2, none⟩ = some (.slice Ex 1 ex) := (blk3_c Hx7.out.blk).2.2; have yp0_7 : World.cell? _ ⟨w5.heap.size, 0, none⟩ = some (.slice Ap 0 cp) := (blk3_c Hp7.out.blk).1; have yp1_7 : World.cell? _ ⟨w5.heap.size, 1, none⟩ = some (.slice Dp 1 dp) := (blk3_c Hp7.out.blk).2.1; have yp2_7 : World.cell? _ ⟨w5.heap.size, 2, none⟩ = some (.slice (some qp) 1 ep) := (blk3_c Hp7.out.blk).2.2; have ypv0_7 : World.cell? _ qp = some (.int .i64 (a + b)) := Hpv7.out; have ys0_7 : World.cell? _ ⟨w7.heap.size, 0, none⟩ = some (.slice As 0 cs) := (blk3_c Hs7.out.blk).1; have ys1_7 : World.cell? _ ⟨w7.heap.size, 1, none⟩ = some (.slice Ds 0 ds) := (blk3_c Hs7.out.blk).2.1; have ys2_7 : World.cell? _ ⟨w7.heap.size, 2, none⟩ = some (.slice Es 0 es) := (blk3_c Hs7.out.blk).2.2; clear hM hb hx yu0_6 yu1_6 yx0_6 yx1_6 yx2_6 yp0_6 yp1_6 yp2_6 ypv0_6 yl0_6 yl1_6 yl2_6)
  go_upto_region 17 with fail
  clear yu0_7 yu1_7 yx0_7 yx1_7 yx2_7 yp0_7 yp1_7 yp2_7 ypv0_7 ys0_7 ys1_7 ys2_7
  generalize w7.alloc (.cells #[.slice As 0 cs, .slice Ds 0 ds, .slice Es 0 es] 37) = WA at HB7 Hx7 Hu7 ⊢
  generalize w3.heap.size = gx at Hx7 ⊢
  go_cut [17, 18] (fun s17 s18 wx => ∃ (g : Nat) (A : Option Addr) (c : Nat) (D : Option Addr) (d : Nat) (E : Option Addr) (e : Nat), s17 = .pointer (some ⟨g, 0, none⟩) ∧ s18 = .int .i64 0 ∧ Aside0 (WBx wx g A c 0 [] D d 1 [[]] E e 1 [a] ∧ Below WA.heap.size WA wx))
  case first =>
    have HST := Aside0.mk (show ∀ {W W1 : World}, (W.cell? ⟨gu, 0, none⟩ = some (.slice none 0 0) ∧ W.cell? ⟨gu, 1, none⟩ = some (.slice (some ⟨w1.heap.size + 1, 0, none⟩) 1 1) ∧ W.cell? ⟨gx, 0, none⟩ = some (.slice Ax 0 cx) ∧ W.cell? ⟨gx, 1, none⟩ = some (.slice Dx 1 dx) ∧ W.cell? ⟨gx, 2, none⟩ = some (.slice Ex 1 ex) ∧ Below WA.heap.size WA W) → Below W.heap.size W W1 → (W1.cell? ⟨gu, 0, none⟩ = some (.slice none 0 0) ∧ W1.cell? ⟨gu, 1, none⟩ = some (.slice (some ⟨w1.heap.size + 1, 0, none⟩) 1 1) ∧ W1.cell? ⟨gx, 0, none⟩ = some (.slice Ax 0 cx) ∧ W1.cell? ⟨gx, 1, none⟩ = some (.slice Dx 1 dx) ∧ W1.cell? ⟨gx, 2, none⟩ = some (.slice Ex 1 ex) ∧ Below WA.heap.size WA W1) from fun {W W1} h hb => ⟨(hb.cell (World.block_lt_of_cell? W _ h.1)).trans h.1, (hb.cell (World.block_lt_of_cell? W _ h.2.1)).trans h.2.1, (hb.cell (World.block_lt_of_cell? W _ h.2.2.1)).trans h.2.2.1, (hb.cell (World.block_lt_of_cell? W _ h.2.2.2.1)).trans h.2.2.2.1, (hb.cell (World.block_lt_of_cell? W _ h.2.2.2.2.1)).trans h.2.2.2.2.1, below_then h.2.2.2.2.2 h.2.2.2.2.2.size hb⟩)
    have HSE := Aside0.mk (show ∀ {W : World} {g : Nat} (i : Nat) (u : Value), (W.cell? ⟨gu, 0, none⟩ = some (.slice none 0 0) ∧ W.cell? ⟨gu, 1, none⟩ = some (.slice (some ⟨w1.heap.size + 1, 0, none⟩) 1 1) ∧ W.cell? ⟨gx, 0, none⟩ = some (.slice Ax 0 cx) ∧ W.cell? ⟨gx, 1, none⟩ = some (.slice Dx 1 dx) ∧ W.cell? ⟨gx, 2, none⟩ = some (.slice Ex 1 ex) ∧ Below WA.heap.size WA W) → WA.heap.size ≤ g → ((W.setCell ⟨g, i, none⟩ u).cell? ⟨gu, 0, none⟩ = some (.slice none 0 0) ∧ (W.setCell ⟨g, i, none⟩ u).cell? ⟨gu, 1, none⟩ = some (.slice (some ⟨w1.heap.size + 1, 0, none⟩) 1 1) ∧ (W.setCell ⟨g, i, none⟩ u).cell? ⟨gx, 0, none⟩ = some (.slice Ax 0 cx) ∧ (W.setCell ⟨g, i, none⟩ u).cell? ⟨gx, 1, none⟩ = some (.slice Dx 1 dx) ∧ (W.setCell ⟨g, i, none⟩ u).cell? ⟨gx, 2, none⟩ = some (.slice Ex 1 ex) ∧ Below WA.heap.size WA (W.setCell ⟨g, i, none⟩ u)) from fun {W g} i u h hg => ⟨cell_set_ne h.1 (by have hl := (Array.getElem?_eq_some_iff.1 Hu7.out.blk).1; show (gu : Nat) ≠ g; omega) i u, cell_set_ne h.2.1 (by have hl := (Array.getElem?_eq_some_iff.1 Hu7.out.blk).1; show (gu : Nat) ≠ g; omega) i u, cell_set_ne h.2.2.1 (by have hl := (Array.getElem?_eq_some_iff.1 Hx7.out.blk).1; show (gx : Nat) ≠ g; omega) i u, cell_set_ne h.2.2.2.1 (by have hl := (Array.getElem?_eq_some_iff.1 Hx7.out.blk).1; show (gx : Nat) ≠ g; omega) i u, cell_set_ne h.2.2.2.2.1 (by have hl := (Array.getElem?_eq_some_iff.1 Hx7.out.blk).1; show (gx : Nat) ≠ g; omega) i u, h.2.2.2.2.2.setCell (p := ⟨g, i, none⟩) hg u⟩)
    have HSB := Aside0.mk (show ∀ {W : World}, (W.cell? ⟨gu, 0, none⟩ = some (.slice none 0 0) ∧ W.cell? ⟨gu, 1, none⟩ = some (.slice (some ⟨w1.heap.size + 1, 0, none⟩) 1 1) ∧ W.cell? ⟨gx, 0, none⟩ = some (.slice Ax 0 cx) ∧ W.cell? ⟨gx, 1, none⟩ = some (.slice Dx 1 dx) ∧ W.cell? ⟨gx, 2, none⟩ = some (.slice Ex 1 ex) ∧ Below WA.heap.size WA W) → Below WA.heap.size WA W from fun {W} h => h.2.2.2.2.2)
    have HS0A := Aside0.mk (show (WA.cell? ⟨gu, 0, none⟩ = some (.slice none 0 0) ∧ WA.cell? ⟨gu, 1, none⟩ = some (.slice (some ⟨w1.heap.size + 1, 0, none⟩) 1 1) ∧ WA.cell? ⟨gx, 0, none⟩ = some (.slice Ax 0 cx) ∧ WA.cell? ⟨gx, 1, none⟩ = some (.slice Dx 1 dx) ∧ WA.cell? ⟨gx, 2, none⟩ = some (.slice Ex 1 ex) ∧ Below WA.heap.size WA WA) from ⟨blk2_c0 Hu7.out.blk, blk2_c1 Hu7.out.blk, (blk3_c Hx7.out.blk).1, (blk3_c Hx7.out.blk).2.1, (blk3_c Hx7.out.blk).2.2, Below.refl _ _⟩)
    have HSDA := Aside0.mk (HST.out HS0A.out (below_drew (Below.refl _ _)))
    have qq0 := HS0A.out.1
    have qq1 := HS0A.out.2.1
    have qq2 := HS0A.out.2.2.1
    have qq3 := HS0A.out.2.2.2.1
    have qq4 := HS0A.out.2.2.2.2.1
    go_region_held3 (fun W => W.cell? ⟨gu, 0, none⟩ = some (.slice none 0 0) ∧ W.cell? ⟨gu, 1, none⟩ = some (.slice (some ⟨w1.heap.size + 1, 0, none⟩) 1 1) ∧ W.cell? ⟨gx, 0, none⟩ = some (.slice Ax 0 cx) ∧ W.cell? ⟨gx, 1, none⟩ = some (.slice Dx 1 dx) ∧ W.cell? ⟨gx, 2, none⟩ = some (.slice Ex 1 ex) ∧ Below WA.heap.size WA W)
      (first | with_reducible exact HS9A.out | with_reducible exact HS8A.out | with_reducible exact HSDA.out | with_reducible exact HS0A.out | with_reducible exact HST.out HS9A.out (below_alloc (Below.refl _ _) _) | with_reducible exact HST.out HS8A.out (below_alloc (Below.refl _ _) _) | with_reducible exact HST.out (by assumption) (below_alloc (Below.refl _ _) _) | with_reducible exact HST.out (by assumption) (below_drew (Below.refl _ _)) | with_reducible exact HSE.out _ _ (HSE.out _ _ (HSE.out _ _ HS9A.out (by first | assumption | exact Nat.le_refl _)) (by first | assumption | exact Nat.le_refl _)) (by first | assumption | exact Nat.le_refl _))
      (first
        | (have hgd := HS8A; clear hgd; go_at_call 15; refine (edge_one_c (Hx7.out.rd.step (HSB.out (by assumption))) (HQ.out.step (by first | exact Below.refl _ _ | exact below_drew (Below.refl _ _) | exact below_alloc (Below.refl _ _) _)) HA.out.1 (HT.out.step (below_then HB7.out HB7.out.size (HSB.out (by assumption))))).mono ?_; rintro e w9 ⟨A3, c3, D3, d3, E3, e3, rfl, hm3, hb9⟩; have hS9 := HST.out (by assumption) hb9; have HS9A := Aside0.mk hS9; have HJ := Aside0.mk (And.intro hm3 hb9); have hjb := hb9.size; have hg9 : WA.heap.size ≤ w9.heap.size := (HSB.out hS9).size; (first | (have hbk := (hb9.block _ (Array.getElem?_eq_some_iff.1 hbk).1).trans hbk) | (have hbk := (hb9.block w8.heap.size (by simp)).trans (heap_alloc_new w8 (.cells #[.slice none 0 0, .slice none 0 0, .slice none 0 0] 37)); have hbl : w8.heap.size < (w8.alloc (.cells #[.slice none 0 0, .slice none 0 0, .slice none 0 0] 37)).heap.size := by simp) | skip); try (obtain ⟨⟨z0, z1⟩, ⟨z2, z3⟩, ⟨z4, z5⟩⟩ := blk3_put hbk (.slice A3 0 c3) (.slice D3 1 d3) (.slice E3 1 e3); have HP := Aside0.mk (And.intro (box_put3 (n := 0) (n' := 1) (m := 1) hbk hm3 (by first | exact hbl | (simp; done)) rfl rfl rfl) (HSB.out (HSE.out 2 (.slice E3 1 e3) (HSE.out 1 (.slice D3 1 d3) (HSE.out 0 (.slice A3 0 c3) hS9 (at_leW hbk (by first | exact Nat.le_refl _ | assumption))) (at_leW hbk (by first | exact Nat.le_refl _ | assumption))) (at_leW hbk (by first | exact Nat.le_refl _ | assumption))))); clear hbk); clear hm3 hb9; clear hS9)
        | (go_at_call 28; refine (of_rep (n := 0) (n' := 1) (Hu7.out.rd.step (HSB.out (by assumption))) unit_sm rfl rfl 1).mono ?_; rintro e w8 ⟨Aq, cq, Dq, dq, Eq, eq, rfl, hq, hb8⟩; have hS8 := HST.out (by assumption) hb8; have HS8A := Aside0.mk hS8; have HQ := Aside0.mk hq; have hg8 : WA.heap.size ≤ w8.heap.size := (HSB.out hS8).size; try (have hbk := (hb8.block WA.heap.size (by simp)).trans (heap_alloc_new WA.drew (.cells #[.slice none 0 0, .slice none 0 0, .slice none 0 0] 37)); have hbl := (Array.getElem?_eq_some_iff.1 hbk).1); clear hq hb8; clear hS8))
    all_goals
      first
      | (have hgd := HP; clear hgd; (try (go_wp2_with fail)); go_meet; case rel => exact ⟨_, _, _, _, _, _, _, rfl, rfl, ⟨HP.out.1, HP.out.2⟩⟩)
      | ((try (go_wp2_with fail)); go_meet; case rel => exact ⟨w9.heap.size, _, _, _, _, _, _, rfl, rfl, ⟨WBx.new HJ.out.1.rd rfl rfl rfl, below_alloc (HSB.out HS9A.out) _⟩⟩)
  case rest =>
    obtain ⟨gt, At, ct, Dt, dt, Et, et, rfl, rfl, HR⟩ := hcut
    obtain ⟨qt, rfl, hqt⟩ := at_int' HR.out.1.rd.w (Below.refl _ _) 0 (by decide) (by simp)
    simp only [Int.toNat_zero, Addr.add_zero'] at hqt
    replace hqt : World.cell? _ qt = some (.int .i64 a) := hqt
    have HBt := Aside0.mk (below_then HB7.out HB7.out.size HR.out.2)
    have Hut := Aside0.mk (Hu7.out.step HR.out.2)
    have yt0 : World.cell? _ ⟨gt, 0, none⟩ = some (.slice At 0 ct) := (blk3_c HR.out.1.blk).1
    have yt1 : World.cell? _ ⟨gt, 1, none⟩ = some (.slice Dt 1 dt) := (blk3_c HR.out.1.blk).2.1
    have yt2 : World.cell? _ ⟨gt, 2, none⟩ = some (.slice (some qt) 1 et) := (blk3_c HR.out.1.blk).2.2
    have yu0 : World.cell? _ ⟨gu, 0, none⟩ = some (.slice none 0 0) := blk2_c0 Hut.out.blk
    have yu1 : World.cell? _ ⟨gu, 1, none⟩ = some (.slice (some ⟨w1.heap.size + 1, 0, none⟩) 1 1) := blk2_c1 Hut.out.blk
    go_wp2_with (go_at_call 29; refine (refsame_any HR.out.1.rd.rel Hut.out.rd (by simp) (by simp) (by simp) (by simp) true (by simp)).mono ?_; rintro e w10 ⟨rfl, hb⟩; have HB10 := Aside0.mk (below_then HBt.out HBt.out.size hb); clear hb)
    go_ret
    exact ⟨rfl, HB10.out⟩
set_option maxHeartbeats 8000000 in
set_option maxRecDepth 100000 in
theorem weighedges_nl (a : Int) (b : Int) (w : World)  (htab : Tab w) (ha : a.natAbs ≤ 4611686018427387904) (hb : b.natAbs ≤ 4611686018427387904) {S : Int} (hS : IntKind.i64.wrap (a + b) = S) (hf : ¬ (a + b).natAbs ≤ 4611686018427387904) (hs : ¬ (a.natAbs : Int) + b.natAbs ≤ 4611686018427387904) (hcc : S < -4611686018427387904) :
    Calls Tryz.prog 10 #[.int .i64 a, .int .i64 b] w fun e w' => e = .returned (.bool true) ∧ Below w.heap.size w w' := by
  have HT := Aside0.mk htab
  clear htab
  have HB0 := Aside0.mk (Below.refl w.heap.size w)
  have HA := Aside0.mk (And.intro ha hb)
  have HFS := Aside0.mk (And.intro hf hs)
  have ha1 : decide (a < -4611686018427387904) = false := decide_eq_false (by omega)
  have ha2 : decide (4611686018427387904 < a) = false := decide_eq_false (by omega)
  have hb1 : decide (b < -4611686018427387904) = false := decide_eq_false (by omega)
  have hb2 : decide (4611686018427387904 < b) = false := decide_eq_false (by omega)
  have hw := hS
  have hsz : decide (max a (wrap64 (-a)) ≤ wrap64 (4611686018427387904 - max b (wrap64 (-b)))) = false := decide_eq_false (fun h => hs ((edge_max ha hb).1 h))
  have hc1 : decide (-4611686018427387904 ≤ S) = false := decide_eq_false (by omega)
  clear ha hb hf hs hS
  go_enter Tryz.func10, Tryz.ntmps10
  go_upto_region 4 with (go_at_call 12; refine (shown4_any _ (HT.out.step HB0.out)).mono ?_; rintro e w1 ⟨rfl, hb⟩; have HB1 := Aside0.mk (below_then HB0.out HB0.out.size hb); clear hb)
  obtain ⟨W2, hW2⟩ : ∃ W2, (((w1.alloc (.cells #[] 3)).alloc (.cells #[.slice (some ⟨w1.heap.size, 0, none⟩) 0 0] 22)).alloc (.cells #[.slice none 0 0, .slice (some ⟨w1.heap.size + 1, 0, none⟩) 1 1] 31)) = W2 := ⟨_, rfl⟩
  have hu := rd_litu w1 w1.heap.size rfl
  have HB2 := Aside0.mk (show Below w.heap.size w W2 from by rw [← hW2]; exact below_alloc (below_then HB1.out HB1.out.size hu.2) _)
  have Hu2 := Aside0.mk (show RelBx W2 (w1.heap.size + 2) none 0 [] (some ⟨w1.heap.size + 1, 0, none⟩) 1 [[]] from by rw [← hW2]; have h := RelBx.new hu.1; simp only [World.size_alloc] at h; exact h)
  obtain ⟨gu, hgu⟩ : ∃ gu, w1.heap.size + 2 = gu := ⟨_, rfl⟩
  rw [hgu] at Hu2
  clear hu
  go_upto_region 5 with fail
  clear hW2 hgu
  have yu0_2 : World.cell? _ ⟨gu, 0, none⟩ = some (.slice none 0 0) := blk2_c0 Hu2.out.blk
  have yu1_2 : World.cell? _ ⟨gu, 1, none⟩ = some (.slice (some ⟨w1.heap.size + 1, 0, none⟩) 1 1) := blk2_c1 Hu2.out.blk
  go_upto_region 6 with (go_at_call 28; refine (of_rep (n := 0) (n' := 1) Hu2.out.rd unit_sm rfl rfl a).mono ?_; rintro e w3 ⟨Ax, cx, Dx, dx, Ex, ex, rfl, hM, hb⟩; have hx := below_box hb (.cells #[.slice Ax 0 cx, .slice Dx 1 dx, .slice Ex 1 ex] 37); have HB3 := Aside0.mk (below_then HB2.out HB2.out.size hx); have Hu3 := Aside0.mk (Hu2.out.step hx); have Hx3 := Aside0.mk (WBx.new (ws := [a]) hM rfl rfl rfl); have yu0_3 : World.cell? _ ⟨gu, 0, none⟩ = some (.slice none 0 0) := blk2_c0 Hu3.out.blk; have yu1_3 : World.cell? _ ⟨gu, 1, none⟩ = some (.slice (some ⟨w1.heap.size + 1, 0, none⟩) 1 1) := blk2_c1 Hu3.out.blk; have yx0_3 : World.cell? _ ⟨w3.heap.size, 0, none⟩ = some (.slice Ax 0 cx) := (blk3_c Hx3.out.blk).1; have yx1_3 : World.cell? _ ⟨w3.heap.size, 1, none⟩ = some (.slice Dx 1 dx) := (blk3_c Hx3.out.blk).2.1; have yx2_3 : World.cell? _ ⟨w3.heap.size, 2, none⟩ = some (.slice Ex 1 ex) := (blk3_c Hx3.out.blk).2.2; clear hM hb hx yu0_2 yu1_2)
  go_upto_region 7 with (go_at_call 28; refine (of_rep (n := 0) (n' := 1) Hu3.out.rd unit_sm rfl rfl b).mono ?_; rintro e w4 ⟨Ay, cy, Dy, dy, Ey, ey, rfl, hM, hb⟩; have hx := below_box hb (.cells #[.slice Ay 0 cy, .slice Dy 1 dy, .slice Ey 1 ey] 37); have HB4 := Aside0.mk (below_then HB3.out HB3.out.size hx); have Hu4 := Aside0.mk (Hu3.out.step hx); have Hx4 := Aside0.mk (Hx3.out.step hx); have Hy4 := Aside0.mk (WBx.new (ws := [b]) hM rfl rfl rfl); have yu0_4 : World.cell? _ ⟨gu, 0, none⟩ = some (.slice none 0 0) := blk2_c0 Hu4.out.blk; have yu1_4 : World.cell? _ ⟨gu, 1, none⟩ = some (.slice (some ⟨w1.heap.size + 1, 0, none⟩) 1 1) := blk2_c1 Hu4.out.blk; have yx0_4 : World.cell? _ ⟨w3.heap.size, 0, none⟩ = some (.slice Ax 0 cx) := (blk3_c Hx4.out.blk).1; have yx1_4 : World.cell? _ ⟨w3.heap.size, 1, none⟩ = some (.slice Dx 1 dx) := (blk3_c Hx4.out.blk).2.1; have yx2_4 : World.cell? _ ⟨w3.heap.size, 2, none⟩ = some (.slice Ex 1 ex) := (blk3_c Hx4.out.blk).2.2; have yy0_4 : World.cell? _ ⟨w4.heap.size, 0, none⟩ = some (.slice Ay 0 cy) := (blk3_c Hy4.out.blk).1; have yy1_4 : World.cell? _ ⟨w4.heap.size, 1, none⟩ = some (.slice Dy 1 dy) := (blk3_c Hy4.out.blk).2.1; have yy2_4 : World.cell? _ ⟨w4.heap.size, 2, none⟩ = some (.slice Ey 1 ey) := (blk3_c Hy4.out.blk).2.2; clear hM hb hx yu0_3 yu1_3 yx0_3 yx1_3 yx2_3)
  go_upto_region 8 with (go_at_call 17; refine (edge_plus_no Hx4.out.rd Hy4.out.rd HA.out.1 HA.out.2 (HT.out.step HB4.out) (by have h := HFS.out.1; omega)).mono ?_; rintro e w5 ⟨Ap, cp, Dp, dp, Ep, ep, rfl, hM, hb⟩; have hx := below_box hb (.cells #[.slice Ap 0 cp, .slice Dp 0 dp, .slice Ep 0 ep] 37); have HB5 := Aside0.mk (below_then HB4.out HB4.out.size hx); have Hu5 := Aside0.mk (Hu4.out.step hx); have Hx5 := Aside0.mk (Hx4.out.step hx); have Hp5 := Aside0.mk (WBx.new hM.rd rfl rfl rfl); have yu0_5 : World.cell? _ ⟨gu, 0, none⟩ = some (.slice none 0 0) := blk2_c0 Hu5.out.blk; have yu1_5 : World.cell? _ ⟨gu, 1, none⟩ = some (.slice (some ⟨w1.heap.size + 1, 0, none⟩) 1 1) := blk2_c1 Hu5.out.blk; have yx0_5 : World.cell? _ ⟨w3.heap.size, 0, none⟩ = some (.slice Ax 0 cx) := (blk3_c Hx5.out.blk).1; have yx1_5 : World.cell? _ ⟨w3.heap.size, 1, none⟩ = some (.slice Dx 1 dx) := (blk3_c Hx5.out.blk).2.1; have yx2_5 : World.cell? _ ⟨w3.heap.size, 2, none⟩ = some (.slice Ex 1 ex) := (blk3_c Hx5.out.blk).2.2; have yp0_5 : World.cell? _ ⟨w5.heap.size, 0, none⟩ = some (.slice Ap 0 cp) := (blk3_c Hp5.out.blk).1; have yp1_5 : World.cell? _ ⟨w5.heap.size, 1, none⟩ = some (.slice Dp 0 dp) := (blk3_c Hp5.out.blk).2.1; have yp2_5 : World.cell? _ ⟨w5.heap.size, 2, none⟩ = some (.slice Ep 0 ep) := (blk3_c Hp5.out.blk).2.2; clear hM hb hx yu0_4 yu1_4 yx0_4 yx1_4 yx2_4 yy0_4 yy1_4 yy2_4)
  obtain ⟨W8, hW8⟩ : ∃ W8, (((((((w5.alloc (.cells #[.slice Ap 0 cp, .slice Dp 0 dp, .slice Ep 0 ep] 37)).alloc (.cells #[.int .i64 0] 3)).alloc (.cells #[.int .i64 0] 3)).alloc (.cells #[.int .i64 1] 3)).alloc (.cells #[.slice (some ⟨w5.heap.size + 2, 0, none⟩) 1 1, .slice (some ⟨w5.heap.size + 3, 0, none⟩) 1 1] 22)).alloc (.cells #[.int .i64 a, .int .i64 b] 2)).alloc (.cells #[.slice (some ⟨w5.heap.size + 1, 0, none⟩) 1 1, .slice (some ⟨w5.heap.size + 4, 0, none⟩) 2 2, .slice (some ⟨w5.heap.size + 5, 0, none⟩) 2 2] 37)) = W8 := ⟨_, rfl⟩
  have hu : WBx W8 (w5.heap.size + 6) (some ⟨w5.heap.size + 1, 0, none⟩) 1 1 [0] (some ⟨w5.heap.size + 4, 0, none⟩) 2 2 [[0], [1]] (some ⟨w5.heap.size + 5, 0, none⟩) 2 2 [a, b] ∧ Below (w5.alloc (.cells #[.slice Ap 0 cp, .slice Dp 0 dp, .slice Ep 0 ep] 37)).heap.size (w5.alloc (.cells #[.slice Ap 0 cp, .slice Dp 0 dp, .slice Ep 0 ep] 37)) W8 := by rw [← hW8]; exact two_lit (w5.alloc (.cells #[.slice Ap 0 cp, .slice Dp 0 dp, .slice Ep 0 ep] 37)) a b (w5.heap.size + 1) (World.size_alloc _ _)
  have HB6 := Aside0.mk (below_then HB5.out HB5.out.size hu.2)
  have Hl6 := Aside0.mk hu.1
  obtain ⟨gl, hgl⟩ : ∃ gl, w5.heap.size + 6 = gl := ⟨_, rfl⟩
  rw [hgl] at Hl6
  have Hu6 := Aside0.mk (Hu5.out.step hu.2)
  have Hx6 := Aside0.mk (Hx5.out.step hu.2)
  have Hp6 := Aside0.mk (Hp5.out.step hu.2)
  clear hu
  go_upto_region 9 with fail
  clear hW8 hgl yu0_5 yu1_5 yx0_5 yx1_5 yx2_5 yp0_5 yp1_5 yp2_5
  have yu0_6 : World.cell? _ ⟨gu, 0, none⟩ = some (.slice none 0 0) := blk2_c0 Hu6.out.blk
  have yu1_6 : World.cell? _ ⟨gu, 1, none⟩ = some (.slice (some ⟨w1.heap.size + 1, 0, none⟩) 1 1) := blk2_c1 Hu6.out.blk
  have yx0_6 : World.cell? _ ⟨w3.heap.size, 0, none⟩ = some (.slice Ax 0 cx) := (blk3_c Hx6.out.blk).1
  have yx1_6 : World.cell? _ ⟨w3.heap.size, 1, none⟩ = some (.slice Dx 1 dx) := (blk3_c Hx6.out.blk).2.1
  have yx2_6 : World.cell? _ ⟨w3.heap.size, 2, none⟩ = some (.slice Ex 1 ex) := (blk3_c Hx6.out.blk).2.2
  have yp0_6 : World.cell? _ ⟨w5.heap.size, 0, none⟩ = some (.slice Ap 0 cp) := (blk3_c Hp6.out.blk).1
  have yp1_6 : World.cell? _ ⟨w5.heap.size, 1, none⟩ = some (.slice Dp 0 dp) := (blk3_c Hp6.out.blk).2.1
  have yp2_6 : World.cell? _ ⟨w5.heap.size, 2, none⟩ = some (.slice Ep 0 ep) := (blk3_c Hp6.out.blk).2.2
  have yl0_6 : World.cell? _ ⟨gl, 0, none⟩ = some (.slice (some ⟨w5.heap.size + 1, 0, none⟩) 1 1) := (blk3_c Hl6.out.blk).1
  have yl1_6 : World.cell? _ ⟨gl, 1, none⟩ = some (.slice (some ⟨w5.heap.size + 4, 0, none⟩) 2 2) := (blk3_c Hl6.out.blk).2.1
  have yl2_6 : World.cell? _ ⟨gl, 2, none⟩ = some (.slice (some ⟨w5.heap.size + 5, 0, none⟩) 2 2) := (blk3_c Hl6.out.blk).2.2
  go_upto_region 12 with (go_at_call 25; refine (edge_sum_no Hl6.out.rd HA.out.1 HA.out.2 (by have h := HFS.out.2; omega)).mono ?_; rintro e w7 ⟨As, cs, Ds, ds, Es, es, rfl, hM, hb⟩; have hx := below_box hb (.cells #[.slice As 0 cs, .slice Ds 0 ds, .slice Es 0 es] 37); have HB7 := Aside0.mk (below_then HB6.out HB6.out.size hx); have Hu7 := Aside0.mk (Hu6.out.step hx); have Hx7 := Aside0.mk (Hx6.out.step hx); have Hp7 := Aside0.mk (Hp6.out.step hx); have Hs7 := Aside0.mk (WBx.new hM.rd rfl rfl rfl); have yu0_7 : World.cell? _ ⟨gu, 0, none⟩ = some (.slice none 0 0) := blk2_c0 Hu7.out.blk; have yu1_7 : World.cell? _ ⟨gu, 1, none⟩ = some (.slice (some ⟨w1.heap.size + 1, 0, none⟩) 1 1) := blk2_c1 Hu7.out.blk; have yx0_7 : World.cell? _ ⟨w3.heap.size, 0, none⟩ = some (.slice Ax 0 cx) := (blk3_c Hx7.out.blk).1; have yx1_7 : World.cell? _ ⟨w3.heap.size, 1, none⟩ = some (.slice Dx 1 dx) := (blk3_c Hx7.out.blk).2.1; have yx2_7 : World.cell? _ ⟨w3.heap.size, 2, none⟩ = some (.slice Ex 1 ex) := (blk3_c Hx7.out.blk).2.2; have yp0_7 : World.cell? _ ⟨w5.heap.size, 0, none⟩ = some (.slice Ap 0 cp) := (blk3_c Hp7.out.blk).1; have yp1_7 : World.cell? _ ⟨w5.heap.size, 1, none⟩ = some (.slice Dp 0 dp) := (blk3_c Hp7.out.blk).2.1; have yp2_7 : World.cell? _ ⟨w5.heap.size, 2, none⟩ = some (.slice Ep 0 ep) := (blk3_c Hp7.out.blk).2.2; have ys0_7 : World.cell? _ ⟨w7.heap.size, 0, none⟩ = some (.slice As 0 cs) := (blk3_c Hs7.out.blk).1; have ys1_7 : World.cell? _ ⟨w7.heap.size, 1, none⟩ = some (.slice Ds 0 ds) := (blk3_c Hs7.out.blk).2.1; have ys2_7 : World.cell? _ ⟨w7.heap.size, 2, none⟩ = some (.slice Es 0 es) := (blk3_c Hs7.out.blk).2.2; clear hM hb hx yu0_6 yu1_6 yx0_6 yx1_6 yx2_6 yp0_6 yp1_6 yp2_6 yl0_6 yl1_6 yl2_6)
  go_upto_region 17 with fail
  clear yu0_7 yu1_7 yx0_7 yx1_7 yx2_7 yp0_7 yp1_7 yp2_7 ys0_7 ys1_7 ys2_7
  generalize w7.alloc (.cells #[.slice As 0 cs, .slice Ds 0 ds, .slice Es 0 es] 37) = WA at HB7 Hx7 Hu7 ⊢
  generalize w3.heap.size = gx at Hx7 ⊢
  go_cut [17, 18] (fun s17 s18 wx => ∃ (g : Nat) (A : Option Addr) (c : Nat) (D : Option Addr) (d : Nat) (E : Option Addr) (e : Nat), s17 = .pointer (some ⟨g, 0, none⟩) ∧ s18 = .int .i64 0 ∧ Aside0 (WBx wx g A c 0 [] D d 1 [[]] E e 1 [a] ∧ Below WA.heap.size WA wx))
  case first =>
    have HST := Aside0.mk (show ∀ {W W1 : World}, (W.cell? ⟨gu, 0, none⟩ = some (.slice none 0 0) ∧ W.cell? ⟨gu, 1, none⟩ = some (.slice (some ⟨w1.heap.size + 1, 0, none⟩) 1 1) ∧ W.cell? ⟨gx, 0, none⟩ = some (.slice Ax 0 cx) ∧ W.cell? ⟨gx, 1, none⟩ = some (.slice Dx 1 dx) ∧ W.cell? ⟨gx, 2, none⟩ = some (.slice Ex 1 ex) ∧ Below WA.heap.size WA W) → Below W.heap.size W W1 → (W1.cell? ⟨gu, 0, none⟩ = some (.slice none 0 0) ∧ W1.cell? ⟨gu, 1, none⟩ = some (.slice (some ⟨w1.heap.size + 1, 0, none⟩) 1 1) ∧ W1.cell? ⟨gx, 0, none⟩ = some (.slice Ax 0 cx) ∧ W1.cell? ⟨gx, 1, none⟩ = some (.slice Dx 1 dx) ∧ W1.cell? ⟨gx, 2, none⟩ = some (.slice Ex 1 ex) ∧ Below WA.heap.size WA W1) from fun {W W1} h hb => ⟨(hb.cell (World.block_lt_of_cell? W _ h.1)).trans h.1, (hb.cell (World.block_lt_of_cell? W _ h.2.1)).trans h.2.1, (hb.cell (World.block_lt_of_cell? W _ h.2.2.1)).trans h.2.2.1, (hb.cell (World.block_lt_of_cell? W _ h.2.2.2.1)).trans h.2.2.2.1, (hb.cell (World.block_lt_of_cell? W _ h.2.2.2.2.1)).trans h.2.2.2.2.1, below_then h.2.2.2.2.2 h.2.2.2.2.2.size hb⟩)
    have HSE := Aside0.mk (show ∀ {W : World} {g : Nat} (i : Nat) (u : Value), (W.cell? ⟨gu, 0, none⟩ = some (.slice none 0 0) ∧ W.cell? ⟨gu, 1, none⟩ = some (.slice (some ⟨w1.heap.size + 1, 0, none⟩) 1 1) ∧ W.cell? ⟨gx, 0, none⟩ = some (.slice Ax 0 cx) ∧ W.cell? ⟨gx, 1, none⟩ = some (.slice Dx 1 dx) ∧ W.cell? ⟨gx, 2, none⟩ = some (.slice Ex 1 ex) ∧ Below WA.heap.size WA W) → WA.heap.size ≤ g → ((W.setCell ⟨g, i, none⟩ u).cell? ⟨gu, 0, none⟩ = some (.slice none 0 0) ∧ (W.setCell ⟨g, i, none⟩ u).cell? ⟨gu, 1, none⟩ = some (.slice (some ⟨w1.heap.size + 1, 0, none⟩) 1 1) ∧ (W.setCell ⟨g, i, none⟩ u).cell? ⟨gx, 0, none⟩ = some (.slice Ax 0 cx) ∧ (W.setCell ⟨g, i, none⟩ u).cell? ⟨gx, 1, none⟩ = some (.slice Dx 1 dx) ∧ (W.setCell ⟨g, i, none⟩ u).cell? ⟨gx, 2, none⟩ = some (.slice Ex 1 ex) ∧ Below WA.heap.size WA (W.setCell ⟨g, i, none⟩ u)) from fun {W g} i u h hg => ⟨cell_set_ne h.1 (by have hl := (Array.getElem?_eq_some_iff.1 Hu7.out.blk).1; show (gu : Nat) ≠ g; omega) i u, cell_set_ne h.2.1 (by have hl := (Array.getElem?_eq_some_iff.1 Hu7.out.blk).1; show (gu : Nat) ≠ g; omega) i u, cell_set_ne h.2.2.1 (by have hl := (Array.getElem?_eq_some_iff.1 Hx7.out.blk).1; show (gx : Nat) ≠ g; omega) i u, cell_set_ne h.2.2.2.1 (by have hl := (Array.getElem?_eq_some_iff.1 Hx7.out.blk).1; show (gx : Nat) ≠ g; omega) i u, cell_set_ne h.2.2.2.2.1 (by have hl := (Array.getElem?_eq_some_iff.1 Hx7.out.blk).1; show (gx : Nat) ≠ g; omega) i u, h.2.2.2.2.2.setCell (p := ⟨g, i, none⟩) hg u⟩)
    have HSB := Aside0.mk (show ∀ {W : World}, (W.cell? ⟨gu, 0, none⟩ = some (.slice none 0 0) ∧ W.cell? ⟨gu, 1, none⟩ = some (.slice (some ⟨w1.heap.size + 1, 0, none⟩) 1 1) ∧ W.cell? ⟨gx, 0, none⟩ = some (.slice Ax 0 cx) ∧ W.cell? ⟨gx, 1, none⟩ = some (.slice Dx 1 dx) ∧ W.cell? ⟨gx, 2, none⟩ = some (.slice Ex 1 ex) ∧ Below WA.heap.size WA W) → Below WA.heap.size WA W from fun {W} h => h.2.2.2.2.2)
    have HS0A := Aside0.mk (show (WA.cell? ⟨gu, 0, none⟩ = some (.slice none 0 0) ∧ WA.cell? ⟨gu, 1, none⟩ = some (.slice (some ⟨w1.heap.size + 1, 0, none⟩) 1 1) ∧ WA.cell? ⟨gx, 0, none⟩ = some (.slice Ax 0 cx) ∧ WA.cell? ⟨gx, 1, none⟩ = some (.slice Dx 1 dx) ∧ WA.cell? ⟨gx, 2, none⟩ = some (.slice Ex 1 ex) ∧ Below WA.heap.size WA WA) from ⟨blk2_c0 Hu7.out.blk, blk2_c1 Hu7.out.blk, (blk3_c Hx7.out.blk).1, (blk3_c Hx7.out.blk).2.1, (blk3_c Hx7.out.blk).2.2, Below.refl _ _⟩)
    have HSDA := Aside0.mk (HST.out HS0A.out (below_drew (Below.refl _ _)))
    have qq0 := HS0A.out.1
    have qq1 := HS0A.out.2.1
    have qq2 := HS0A.out.2.2.1
    have qq3 := HS0A.out.2.2.2.1
    have qq4 := HS0A.out.2.2.2.2.1
    go_region_held3 (fun W => W.cell? ⟨gu, 0, none⟩ = some (.slice none 0 0) ∧ W.cell? ⟨gu, 1, none⟩ = some (.slice (some ⟨w1.heap.size + 1, 0, none⟩) 1 1) ∧ W.cell? ⟨gx, 0, none⟩ = some (.slice Ax 0 cx) ∧ W.cell? ⟨gx, 1, none⟩ = some (.slice Dx 1 dx) ∧ W.cell? ⟨gx, 2, none⟩ = some (.slice Ex 1 ex) ∧ Below WA.heap.size WA W)
      (first | with_reducible exact HS9A.out | with_reducible exact HS8A.out | with_reducible exact HSDA.out | with_reducible exact HS0A.out | with_reducible exact HST.out HS9A.out (below_alloc (Below.refl _ _) _) | with_reducible exact HST.out HS8A.out (below_alloc (Below.refl _ _) _) | with_reducible exact HST.out (by assumption) (below_alloc (Below.refl _ _) _) | with_reducible exact HST.out (by assumption) (below_drew (Below.refl _ _)) | with_reducible exact HSE.out _ _ (HSE.out _ _ (HSE.out _ _ HS9A.out (by first | assumption | exact Nat.le_refl _)) (by first | assumption | exact Nat.le_refl _)) (by first | assumption | exact Nat.le_refl _))
      (first
        | (have hgd := HS8A; clear hgd; go_at_call 15; refine (edge_one_c (Hx7.out.rd.step (HSB.out (by assumption))) (HQ.out.step (by first | exact Below.refl _ _ | exact below_drew (Below.refl _ _) | exact below_alloc (Below.refl _ _) _)) HA.out.1 (HT.out.step (below_then HB7.out HB7.out.size (HSB.out (by assumption))))).mono ?_; rintro e w9 ⟨A3, c3, D3, d3, E3, e3, rfl, hm3, hb9⟩; have hS9 := HST.out (by assumption) hb9; have HS9A := Aside0.mk hS9; have HJ := Aside0.mk (And.intro hm3 hb9); have hjb := hb9.size; have hg9 : WA.heap.size ≤ w9.heap.size := (HSB.out hS9).size; (first | (have hbk := (hb9.block _ (Array.getElem?_eq_some_iff.1 hbk).1).trans hbk) | (have hbk := (hb9.block w8.heap.size (by simp)).trans (heap_alloc_new w8 (.cells #[.slice none 0 0, .slice none 0 0, .slice none 0 0] 37)); have hbl : w8.heap.size < (w8.alloc (.cells #[.slice none 0 0, .slice none 0 0, .slice none 0 0] 37)).heap.size := by simp) | skip); try (obtain ⟨⟨z0, z1⟩, ⟨z2, z3⟩, ⟨z4, z5⟩⟩ := blk3_put hbk (.slice A3 0 c3) (.slice D3 1 d3) (.slice E3 1 e3); have HP := Aside0.mk (And.intro (box_put3 (n := 0) (n' := 1) (m := 1) hbk hm3 (by first | exact hbl | (simp; done)) rfl rfl rfl) (HSB.out (HSE.out 2 (.slice E3 1 e3) (HSE.out 1 (.slice D3 1 d3) (HSE.out 0 (.slice A3 0 c3) hS9 (at_leW hbk (by first | exact Nat.le_refl _ | assumption))) (at_leW hbk (by first | exact Nat.le_refl _ | assumption))) (at_leW hbk (by first | exact Nat.le_refl _ | assumption))))); clear hbk); clear hm3 hb9; clear hS9)
        | (go_at_call 28; refine (of_rep (n := 0) (n' := 1) (Hu7.out.rd.step (HSB.out (by assumption))) unit_sm rfl rfl 1).mono ?_; rintro e w8 ⟨Aq, cq, Dq, dq, Eq, eq, rfl, hq, hb8⟩; have hS8 := HST.out (by assumption) hb8; have HS8A := Aside0.mk hS8; have HQ := Aside0.mk hq; have hg8 : WA.heap.size ≤ w8.heap.size := (HSB.out hS8).size; try (have hbk := (hb8.block WA.heap.size (by simp)).trans (heap_alloc_new WA.drew (.cells #[.slice none 0 0, .slice none 0 0, .slice none 0 0] 37)); have hbl := (Array.getElem?_eq_some_iff.1 hbk).1); clear hq hb8; clear hS8))
    all_goals
      first
      | (have hgd := HP; clear hgd; (try (go_wp2_with fail)); go_meet; case rel => exact ⟨_, _, _, _, _, _, _, rfl, rfl, ⟨HP.out.1, HP.out.2⟩⟩)
      | ((try (go_wp2_with fail)); go_meet; case rel => exact ⟨w9.heap.size, _, _, _, _, _, _, rfl, rfl, ⟨WBx.new HJ.out.1.rd rfl rfl rfl, below_alloc (HSB.out HS9A.out) _⟩⟩)
  case rest =>
    obtain ⟨gt, At, ct, Dt, dt, Et, et, rfl, rfl, HR⟩ := hcut
    obtain ⟨qt, rfl, hqt⟩ := at_int' HR.out.1.rd.w (Below.refl _ _) 0 (by decide) (by simp)
    simp only [Int.toNat_zero, Addr.add_zero'] at hqt
    replace hqt : World.cell? _ qt = some (.int .i64 a) := hqt
    have HBt := Aside0.mk (below_then HB7.out HB7.out.size HR.out.2)
    have Hut := Aside0.mk (Hu7.out.step HR.out.2)
    have yt0 : World.cell? _ ⟨gt, 0, none⟩ = some (.slice At 0 ct) := (blk3_c HR.out.1.blk).1
    have yt1 : World.cell? _ ⟨gt, 1, none⟩ = some (.slice Dt 1 dt) := (blk3_c HR.out.1.blk).2.1
    have yt2 : World.cell? _ ⟨gt, 2, none⟩ = some (.slice (some qt) 1 et) := (blk3_c HR.out.1.blk).2.2
    have yu0 : World.cell? _ ⟨gu, 0, none⟩ = some (.slice none 0 0) := blk2_c0 Hut.out.blk
    have yu1 : World.cell? _ ⟨gu, 1, none⟩ = some (.slice (some ⟨w1.heap.size + 1, 0, none⟩) 1 1) := blk2_c1 Hut.out.blk
    go_wp2_with (go_at_call 29; refine (refsame_any HR.out.1.rd.rel Hut.out.rd (by simp) (by simp) (by simp) (by simp) true (by simp)).mono ?_; rintro e w10 ⟨rfl, hb⟩; have HB10 := Aside0.mk (below_then HBt.out HBt.out.size hb); clear hb)
    go_ret
    exact ⟨rfl, HB10.out⟩
set_option maxHeartbeats 8000000 in
set_option maxRecDepth 100000 in
theorem weighedges_nh (a : Int) (b : Int) (w : World)  (htab : Tab w) (ha : a.natAbs ≤ 4611686018427387904) (hb : b.natAbs ≤ 4611686018427387904) {S : Int} (hS : IntKind.i64.wrap (a + b) = S) (hf : ¬ (a + b).natAbs ≤ 4611686018427387904) (hs : ¬ (a.natAbs : Int) + b.natAbs ≤ 4611686018427387904) (hcc : 4611686018427387904 < S) :
    Calls Tryz.prog 10 #[.int .i64 a, .int .i64 b] w fun e w' => e = .returned (.bool true) ∧ Below w.heap.size w w' := by
  have HT := Aside0.mk htab
  clear htab
  have HB0 := Aside0.mk (Below.refl w.heap.size w)
  have HA := Aside0.mk (And.intro ha hb)
  have HFS := Aside0.mk (And.intro hf hs)
  have ha1 : decide (a < -4611686018427387904) = false := decide_eq_false (by omega)
  have ha2 : decide (4611686018427387904 < a) = false := decide_eq_false (by omega)
  have hb1 : decide (b < -4611686018427387904) = false := decide_eq_false (by omega)
  have hb2 : decide (4611686018427387904 < b) = false := decide_eq_false (by omega)
  have hw := hS
  have hsz : decide (max a (wrap64 (-a)) ≤ wrap64 (4611686018427387904 - max b (wrap64 (-b)))) = false := decide_eq_false (fun h => hs ((edge_max ha hb).1 h))
  have hc1 : decide (-4611686018427387904 ≤ S) = true := decide_eq_true (by omega)
  have hc2 : decide (S ≤ 4611686018427387904) = false := decide_eq_false (by omega)
  clear ha hb hf hs hS
  go_enter Tryz.func10, Tryz.ntmps10
  go_upto_region 4 with (go_at_call 12; refine (shown4_any _ (HT.out.step HB0.out)).mono ?_; rintro e w1 ⟨rfl, hb⟩; have HB1 := Aside0.mk (below_then HB0.out HB0.out.size hb); clear hb)
  obtain ⟨W2, hW2⟩ : ∃ W2, (((w1.alloc (.cells #[] 3)).alloc (.cells #[.slice (some ⟨w1.heap.size, 0, none⟩) 0 0] 22)).alloc (.cells #[.slice none 0 0, .slice (some ⟨w1.heap.size + 1, 0, none⟩) 1 1] 31)) = W2 := ⟨_, rfl⟩
  have hu := rd_litu w1 w1.heap.size rfl
  have HB2 := Aside0.mk (show Below w.heap.size w W2 from by rw [← hW2]; exact below_alloc (below_then HB1.out HB1.out.size hu.2) _)
  have Hu2 := Aside0.mk (show RelBx W2 (w1.heap.size + 2) none 0 [] (some ⟨w1.heap.size + 1, 0, none⟩) 1 [[]] from by rw [← hW2]; have h := RelBx.new hu.1; simp only [World.size_alloc] at h; exact h)
  obtain ⟨gu, hgu⟩ : ∃ gu, w1.heap.size + 2 = gu := ⟨_, rfl⟩
  rw [hgu] at Hu2
  clear hu
  go_upto_region 5 with fail
  clear hW2 hgu
  have yu0_2 : World.cell? _ ⟨gu, 0, none⟩ = some (.slice none 0 0) := blk2_c0 Hu2.out.blk
  have yu1_2 : World.cell? _ ⟨gu, 1, none⟩ = some (.slice (some ⟨w1.heap.size + 1, 0, none⟩) 1 1) := blk2_c1 Hu2.out.blk
  go_upto_region 6 with (go_at_call 28; refine (of_rep (n := 0) (n' := 1) Hu2.out.rd unit_sm rfl rfl a).mono ?_; rintro e w3 ⟨Ax, cx, Dx, dx, Ex, ex, rfl, hM, hb⟩; have hx := below_box hb (.cells #[.slice Ax 0 cx, .slice Dx 1 dx, .slice Ex 1 ex] 37); have HB3 := Aside0.mk (below_then HB2.out HB2.out.size hx); have Hu3 := Aside0.mk (Hu2.out.step hx); have Hx3 := Aside0.mk (WBx.new (ws := [a]) hM rfl rfl rfl); have yu0_3 : World.cell? _ ⟨gu, 0, none⟩ = some (.slice none 0 0) := blk2_c0 Hu3.out.blk; have yu1_3 : World.cell? _ ⟨gu, 1, none⟩ = some (.slice (some ⟨w1.heap.size + 1, 0, none⟩) 1 1) := blk2_c1 Hu3.out.blk; have yx0_3 : World.cell? _ ⟨w3.heap.size, 0, none⟩ = some (.slice Ax 0 cx) := (blk3_c Hx3.out.blk).1; have yx1_3 : World.cell? _ ⟨w3.heap.size, 1, none⟩ = some (.slice Dx 1 dx) := (blk3_c Hx3.out.blk).2.1; have yx2_3 : World.cell? _ ⟨w3.heap.size, 2, none⟩ = some (.slice Ex 1 ex) := (blk3_c Hx3.out.blk).2.2; clear hM hb hx yu0_2 yu1_2)
  go_upto_region 7 with (go_at_call 28; refine (of_rep (n := 0) (n' := 1) Hu3.out.rd unit_sm rfl rfl b).mono ?_; rintro e w4 ⟨Ay, cy, Dy, dy, Ey, ey, rfl, hM, hb⟩; have hx := below_box hb (.cells #[.slice Ay 0 cy, .slice Dy 1 dy, .slice Ey 1 ey] 37); have HB4 := Aside0.mk (below_then HB3.out HB3.out.size hx); have Hu4 := Aside0.mk (Hu3.out.step hx); have Hx4 := Aside0.mk (Hx3.out.step hx); have Hy4 := Aside0.mk (WBx.new (ws := [b]) hM rfl rfl rfl); have yu0_4 : World.cell? _ ⟨gu, 0, none⟩ = some (.slice none 0 0) := blk2_c0 Hu4.out.blk; have yu1_4 : World.cell? _ ⟨gu, 1, none⟩ = some (.slice (some ⟨w1.heap.size + 1, 0, none⟩) 1 1) := blk2_c1 Hu4.out.blk; have yx0_4 : World.cell? _ ⟨w3.heap.size, 0, none⟩ = some (.slice Ax 0 cx) := (blk3_c Hx4.out.blk).1; have yx1_4 : World.cell? _ ⟨w3.heap.size, 1, none⟩ = some (.slice Dx 1 dx) := (blk3_c Hx4.out.blk).2.1; have yx2_4 : World.cell? _ ⟨w3.heap.size, 2, none⟩ = some (.slice Ex 1 ex) := (blk3_c Hx4.out.blk).2.2; have yy0_4 : World.cell? _ ⟨w4.heap.size, 0, none⟩ = some (.slice Ay 0 cy) := (blk3_c Hy4.out.blk).1; have yy1_4 : World.cell? _ ⟨w4.heap.size, 1, none⟩ = some (.slice Dy 1 dy) := (blk3_c Hy4.out.blk).2.1; have yy2_4 : World.cell? _ ⟨w4.heap.size, 2, none⟩ = some (.slice Ey 1 ey) := (blk3_c Hy4.out.blk).2.2; clear hM hb hx yu0_3 yu1_3 yx0_3 yx1_3 yx2_3)
  go_upto_region 8 with (go_at_call 17; refine (edge_plus_no Hx4.out.rd Hy4.out.rd HA.out.1 HA.out.2 (HT.out.step HB4.out) (by have h := HFS.out.1; omega)).mono ?_; rintro e w5 ⟨Ap, cp, Dp, dp, Ep, ep, rfl, hM, hb⟩; have hx := below_box hb (.cells #[.slice Ap 0 cp, .slice Dp 0 dp, .slice Ep 0 ep] 37); have HB5 := Aside0.mk (below_then HB4.out HB4.out.size hx); have Hu5 := Aside0.mk (Hu4.out.step hx); have Hx5 := Aside0.mk (Hx4.out.step hx); have Hp5 := Aside0.mk (WBx.new hM.rd rfl rfl rfl); have yu0_5 : World.cell? _ ⟨gu, 0, none⟩ = some (.slice none 0 0) := blk2_c0 Hu5.out.blk; have yu1_5 : World.cell? _ ⟨gu, 1, none⟩ = some (.slice (some ⟨w1.heap.size + 1, 0, none⟩) 1 1) := blk2_c1 Hu5.out.blk; have yx0_5 : World.cell? _ ⟨w3.heap.size, 0, none⟩ = some (.slice Ax 0 cx) := (blk3_c Hx5.out.blk).1; have yx1_5 : World.cell? _ ⟨w3.heap.size, 1, none⟩ = some (.slice Dx 1 dx) := (blk3_c Hx5.out.blk).2.1; have yx2_5 : World.cell? _ ⟨w3.heap.size, 2, none⟩ = some (.slice Ex 1 ex) := (blk3_c Hx5.out.blk).2.2; have yp0_5 : World.cell? _ ⟨w5.heap.size, 0, none⟩ = some (.slice Ap 0 cp) := (blk3_c Hp5.out.blk).1; have yp1_5 : World.cell? _ ⟨w5.heap.size, 1, none⟩ = some (.slice Dp 0 dp) := (blk3_c Hp5.out.blk).2.1; have yp2_5 : World.cell? _ ⟨w5.heap.size, 2, none⟩ = some (.slice Ep 0 ep) := (blk3_c Hp5.out.blk).2.2; clear hM hb hx yu0_4 yu1_4 yx0_4 yx1_4 yx2_4 yy0_4 yy1_4 yy2_4)
  obtain ⟨W8, hW8⟩ : ∃ W8, (((((((w5.alloc (.cells #[.slice Ap 0 cp, .slice Dp 0 dp, .slice Ep 0 ep] 37)).alloc (.cells #[.int .i64 0] 3)).alloc (.cells #[.int .i64 0] 3)).alloc (.cells #[.int .i64 1] 3)).alloc (.cells #[.slice (some ⟨w5.heap.size + 2, 0, none⟩) 1 1, .slice (some ⟨w5.heap.size + 3, 0, none⟩) 1 1] 22)).alloc (.cells #[.int .i64 a, .int .i64 b] 2)).alloc (.cells #[.slice (some ⟨w5.heap.size + 1, 0, none⟩) 1 1, .slice (some ⟨w5.heap.size + 4, 0, none⟩) 2 2, .slice (some ⟨w5.heap.size + 5, 0, none⟩) 2 2] 37)) = W8 := ⟨_, rfl⟩
  have hu : WBx W8 (w5.heap.size + 6) (some ⟨w5.heap.size + 1, 0, none⟩) 1 1 [0] (some ⟨w5.heap.size + 4, 0, none⟩) 2 2 [[0], [1]] (some ⟨w5.heap.size + 5, 0, none⟩) 2 2 [a, b] ∧ Below (w5.alloc (.cells #[.slice Ap 0 cp, .slice Dp 0 dp, .slice Ep 0 ep] 37)).heap.size (w5.alloc (.cells #[.slice Ap 0 cp, .slice Dp 0 dp, .slice Ep 0 ep] 37)) W8 := by rw [← hW8]; exact two_lit (w5.alloc (.cells #[.slice Ap 0 cp, .slice Dp 0 dp, .slice Ep 0 ep] 37)) a b (w5.heap.size + 1) (World.size_alloc _ _)
  have HB6 := Aside0.mk (below_then HB5.out HB5.out.size hu.2)
  have Hl6 := Aside0.mk hu.1
  obtain ⟨gl, hgl⟩ : ∃ gl, w5.heap.size + 6 = gl := ⟨_, rfl⟩
  rw [hgl] at Hl6
  have Hu6 := Aside0.mk (Hu5.out.step hu.2)
  have Hx6 := Aside0.mk (Hx5.out.step hu.2)
  have Hp6 := Aside0.mk (Hp5.out.step hu.2)
  clear hu
  go_upto_region 9 with fail
  clear hW8 hgl yu0_5 yu1_5 yx0_5 yx1_5 yx2_5 yp0_5 yp1_5 yp2_5
  have yu0_6 : World.cell? _ ⟨gu, 0, none⟩ = some (.slice none 0 0) := blk2_c0 Hu6.out.blk
  have yu1_6 : World.cell? _ ⟨gu, 1, none⟩ = some (.slice (some ⟨w1.heap.size + 1, 0, none⟩) 1 1) := blk2_c1 Hu6.out.blk
  have yx0_6 : World.cell? _ ⟨w3.heap.size, 0, none⟩ = some (.slice Ax 0 cx) := (blk3_c Hx6.out.blk).1
  have yx1_6 : World.cell? _ ⟨w3.heap.size, 1, none⟩ = some (.slice Dx 1 dx) := (blk3_c Hx6.out.blk).2.1
  have yx2_6 : World.cell? _ ⟨w3.heap.size, 2, none⟩ = some (.slice Ex 1 ex) := (blk3_c Hx6.out.blk).2.2
  have yp0_6 : World.cell? _ ⟨w5.heap.size, 0, none⟩ = some (.slice Ap 0 cp) := (blk3_c Hp6.out.blk).1
  have yp1_6 : World.cell? _ ⟨w5.heap.size, 1, none⟩ = some (.slice Dp 0 dp) := (blk3_c Hp6.out.blk).2.1
  have yp2_6 : World.cell? _ ⟨w5.heap.size, 2, none⟩ = some (.slice Ep 0 ep) := (blk3_c Hp6.out.blk).2.2
  have yl0_6 : World.cell? _ ⟨gl, 0, none⟩ = some (.slice (some ⟨w5.heap.size + 1, 0, none⟩) 1 1) := (blk3_c Hl6.out.blk).1
  have yl1_6 : World.cell? _ ⟨gl, 1, none⟩ = some (.slice (some ⟨w5.heap.size + 4, 0, none⟩) 2 2) := (blk3_c Hl6.out.blk).2.1
  have yl2_6 : World.cell? _ ⟨gl, 2, none⟩ = some (.slice (some ⟨w5.heap.size + 5, 0, none⟩) 2 2) := (blk3_c Hl6.out.blk).2.2
  go_upto_region 12 with (go_at_call 25; refine (edge_sum_no Hl6.out.rd HA.out.1 HA.out.2 (by have h := HFS.out.2; omega)).mono ?_; rintro e w7 ⟨As, cs, Ds, ds, Es, es, rfl, hM, hb⟩; have hx := below_box hb (.cells #[.slice As 0 cs, .slice Ds 0 ds, .slice Es 0 es] 37); have HB7 := Aside0.mk (below_then HB6.out HB6.out.size hx); have Hu7 := Aside0.mk (Hu6.out.step hx); have Hx7 := Aside0.mk (Hx6.out.step hx); have Hp7 := Aside0.mk (Hp6.out.step hx); have Hs7 := Aside0.mk (WBx.new hM.rd rfl rfl rfl); have yu0_7 : World.cell? _ ⟨gu, 0, none⟩ = some (.slice none 0 0) := blk2_c0 Hu7.out.blk; have yu1_7 : World.cell? _ ⟨gu, 1, none⟩ = some (.slice (some ⟨w1.heap.size + 1, 0, none⟩) 1 1) := blk2_c1 Hu7.out.blk; have yx0_7 : World.cell? _ ⟨w3.heap.size, 0, none⟩ = some (.slice Ax 0 cx) := (blk3_c Hx7.out.blk).1; have yx1_7 : World.cell? _ ⟨w3.heap.size, 1, none⟩ = some (.slice Dx 1 dx) := (blk3_c Hx7.out.blk).2.1; have yx2_7 : World.cell? _ ⟨w3.heap.size, 2, none⟩ = some (.slice Ex 1 ex) := (blk3_c Hx7.out.blk).2.2; have yp0_7 : World.cell? _ ⟨w5.heap.size, 0, none⟩ = some (.slice Ap 0 cp) := (blk3_c Hp7.out.blk).1; have yp1_7 : World.cell? _ ⟨w5.heap.size, 1, none⟩ = some (.slice Dp 0 dp) := (blk3_c Hp7.out.blk).2.1; have yp2_7 : World.cell? _ ⟨w5.heap.size, 2, none⟩ = some (.slice Ep 0 ep) := (blk3_c Hp7.out.blk).2.2; have ys0_7 : World.cell? _ ⟨w7.heap.size, 0, none⟩ = some (.slice As 0 cs) := (blk3_c Hs7.out.blk).1; have ys1_7 : World.cell? _ ⟨w7.heap.size, 1, none⟩ = some (.slice Ds 0 ds) := (blk3_c Hs7.out.blk).2.1; have ys2_7 : World.cell? _ ⟨w7.heap.size, 2, none⟩ = some (.slice Es 0 es) := (blk3_c Hs7.out.blk).2.2; clear hM hb hx yu0_6 yu1_6 yx0_6 yx1_6 yx2_6 yp0_6 yp1_6 yp2_6 yl0_6 yl1_6 yl2_6)
  go_upto_region 17 with fail
  clear yu0_7 yu1_7 yx0_7 yx1_7 yx2_7 yp0_7 yp1_7 yp2_7 ys0_7 ys1_7 ys2_7
  generalize w7.alloc (.cells #[.slice As 0 cs, .slice Ds 0 ds, .slice Es 0 es] 37) = WA at HB7 Hx7 Hu7 ⊢
  generalize w3.heap.size = gx at Hx7 ⊢
  go_cut [17, 18] (fun s17 s18 wx => ∃ (g : Nat) (A : Option Addr) (c : Nat) (D : Option Addr) (d : Nat) (E : Option Addr) (e : Nat), s17 = .pointer (some ⟨g, 0, none⟩) ∧ s18 = .int .i64 0 ∧ Aside0 (WBx wx g A c 0 [] D d 1 [[]] E e 1 [a] ∧ Below WA.heap.size WA wx))
  case first =>
    have HST := Aside0.mk (show ∀ {W W1 : World}, (W.cell? ⟨gu, 0, none⟩ = some (.slice none 0 0) ∧ W.cell? ⟨gu, 1, none⟩ = some (.slice (some ⟨w1.heap.size + 1, 0, none⟩) 1 1) ∧ W.cell? ⟨gx, 0, none⟩ = some (.slice Ax 0 cx) ∧ W.cell? ⟨gx, 1, none⟩ = some (.slice Dx 1 dx) ∧ W.cell? ⟨gx, 2, none⟩ = some (.slice Ex 1 ex) ∧ Below WA.heap.size WA W) → Below W.heap.size W W1 → (W1.cell? ⟨gu, 0, none⟩ = some (.slice none 0 0) ∧ W1.cell? ⟨gu, 1, none⟩ = some (.slice (some ⟨w1.heap.size + 1, 0, none⟩) 1 1) ∧ W1.cell? ⟨gx, 0, none⟩ = some (.slice Ax 0 cx) ∧ W1.cell? ⟨gx, 1, none⟩ = some (.slice Dx 1 dx) ∧ W1.cell? ⟨gx, 2, none⟩ = some (.slice Ex 1 ex) ∧ Below WA.heap.size WA W1) from fun {W W1} h hb => ⟨(hb.cell (World.block_lt_of_cell? W _ h.1)).trans h.1, (hb.cell (World.block_lt_of_cell? W _ h.2.1)).trans h.2.1, (hb.cell (World.block_lt_of_cell? W _ h.2.2.1)).trans h.2.2.1, (hb.cell (World.block_lt_of_cell? W _ h.2.2.2.1)).trans h.2.2.2.1, (hb.cell (World.block_lt_of_cell? W _ h.2.2.2.2.1)).trans h.2.2.2.2.1, below_then h.2.2.2.2.2 h.2.2.2.2.2.size hb⟩)
    have HSE := Aside0.mk (show ∀ {W : World} {g : Nat} (i : Nat) (u : Value), (W.cell? ⟨gu, 0, none⟩ = some (.slice none 0 0) ∧ W.cell? ⟨gu, 1, none⟩ = some (.slice (some ⟨w1.heap.size + 1, 0, none⟩) 1 1) ∧ W.cell? ⟨gx, 0, none⟩ = some (.slice Ax 0 cx) ∧ W.cell? ⟨gx, 1, none⟩ = some (.slice Dx 1 dx) ∧ W.cell? ⟨gx, 2, none⟩ = some (.slice Ex 1 ex) ∧ Below WA.heap.size WA W) → WA.heap.size ≤ g → ((W.setCell ⟨g, i, none⟩ u).cell? ⟨gu, 0, none⟩ = some (.slice none 0 0) ∧ (W.setCell ⟨g, i, none⟩ u).cell? ⟨gu, 1, none⟩ = some (.slice (some ⟨w1.heap.size + 1, 0, none⟩) 1 1) ∧ (W.setCell ⟨g, i, none⟩ u).cell? ⟨gx, 0, none⟩ = some (.slice Ax 0 cx) ∧ (W.setCell ⟨g, i, none⟩ u).cell? ⟨gx, 1, none⟩ = some (.slice Dx 1 dx) ∧ (W.setCell ⟨g, i, none⟩ u).cell? ⟨gx, 2, none⟩ = some (.slice Ex 1 ex) ∧ Below WA.heap.size WA (W.setCell ⟨g, i, none⟩ u)) from fun {W g} i u h hg => ⟨cell_set_ne h.1 (by have hl := (Array.getElem?_eq_some_iff.1 Hu7.out.blk).1; show (gu : Nat) ≠ g; omega) i u, cell_set_ne h.2.1 (by have hl := (Array.getElem?_eq_some_iff.1 Hu7.out.blk).1; show (gu : Nat) ≠ g; omega) i u, cell_set_ne h.2.2.1 (by have hl := (Array.getElem?_eq_some_iff.1 Hx7.out.blk).1; show (gx : Nat) ≠ g; omega) i u, cell_set_ne h.2.2.2.1 (by have hl := (Array.getElem?_eq_some_iff.1 Hx7.out.blk).1; show (gx : Nat) ≠ g; omega) i u, cell_set_ne h.2.2.2.2.1 (by have hl := (Array.getElem?_eq_some_iff.1 Hx7.out.blk).1; show (gx : Nat) ≠ g; omega) i u, h.2.2.2.2.2.setCell (p := ⟨g, i, none⟩) hg u⟩)
    have HSB := Aside0.mk (show ∀ {W : World}, (W.cell? ⟨gu, 0, none⟩ = some (.slice none 0 0) ∧ W.cell? ⟨gu, 1, none⟩ = some (.slice (some ⟨w1.heap.size + 1, 0, none⟩) 1 1) ∧ W.cell? ⟨gx, 0, none⟩ = some (.slice Ax 0 cx) ∧ W.cell? ⟨gx, 1, none⟩ = some (.slice Dx 1 dx) ∧ W.cell? ⟨gx, 2, none⟩ = some (.slice Ex 1 ex) ∧ Below WA.heap.size WA W) → Below WA.heap.size WA W from fun {W} h => h.2.2.2.2.2)
    have HS0A := Aside0.mk (show (WA.cell? ⟨gu, 0, none⟩ = some (.slice none 0 0) ∧ WA.cell? ⟨gu, 1, none⟩ = some (.slice (some ⟨w1.heap.size + 1, 0, none⟩) 1 1) ∧ WA.cell? ⟨gx, 0, none⟩ = some (.slice Ax 0 cx) ∧ WA.cell? ⟨gx, 1, none⟩ = some (.slice Dx 1 dx) ∧ WA.cell? ⟨gx, 2, none⟩ = some (.slice Ex 1 ex) ∧ Below WA.heap.size WA WA) from ⟨blk2_c0 Hu7.out.blk, blk2_c1 Hu7.out.blk, (blk3_c Hx7.out.blk).1, (blk3_c Hx7.out.blk).2.1, (blk3_c Hx7.out.blk).2.2, Below.refl _ _⟩)
    have HSDA := Aside0.mk (HST.out HS0A.out (below_drew (Below.refl _ _)))
    have qq0 := HS0A.out.1
    have qq1 := HS0A.out.2.1
    have qq2 := HS0A.out.2.2.1
    have qq3 := HS0A.out.2.2.2.1
    have qq4 := HS0A.out.2.2.2.2.1
    go_region_held3 (fun W => W.cell? ⟨gu, 0, none⟩ = some (.slice none 0 0) ∧ W.cell? ⟨gu, 1, none⟩ = some (.slice (some ⟨w1.heap.size + 1, 0, none⟩) 1 1) ∧ W.cell? ⟨gx, 0, none⟩ = some (.slice Ax 0 cx) ∧ W.cell? ⟨gx, 1, none⟩ = some (.slice Dx 1 dx) ∧ W.cell? ⟨gx, 2, none⟩ = some (.slice Ex 1 ex) ∧ Below WA.heap.size WA W)
      (first | with_reducible exact HS9A.out | with_reducible exact HS8A.out | with_reducible exact HSDA.out | with_reducible exact HS0A.out | with_reducible exact HST.out HS9A.out (below_alloc (Below.refl _ _) _) | with_reducible exact HST.out HS8A.out (below_alloc (Below.refl _ _) _) | with_reducible exact HST.out (by assumption) (below_alloc (Below.refl _ _) _) | with_reducible exact HST.out (by assumption) (below_drew (Below.refl _ _)) | with_reducible exact HSE.out _ _ (HSE.out _ _ (HSE.out _ _ HS9A.out (by first | assumption | exact Nat.le_refl _)) (by first | assumption | exact Nat.le_refl _)) (by first | assumption | exact Nat.le_refl _))
      (first
        | (have hgd := HS8A; clear hgd; go_at_call 15; refine (edge_one_c (Hx7.out.rd.step (HSB.out (by assumption))) (HQ.out.step (by first | exact Below.refl _ _ | exact below_drew (Below.refl _ _) | exact below_alloc (Below.refl _ _) _)) HA.out.1 (HT.out.step (below_then HB7.out HB7.out.size (HSB.out (by assumption))))).mono ?_; rintro e w9 ⟨A3, c3, D3, d3, E3, e3, rfl, hm3, hb9⟩; have hS9 := HST.out (by assumption) hb9; have HS9A := Aside0.mk hS9; have HJ := Aside0.mk (And.intro hm3 hb9); have hjb := hb9.size; have hg9 : WA.heap.size ≤ w9.heap.size := (HSB.out hS9).size; (first | (have hbk := (hb9.block _ (Array.getElem?_eq_some_iff.1 hbk).1).trans hbk) | (have hbk := (hb9.block w8.heap.size (by simp)).trans (heap_alloc_new w8 (.cells #[.slice none 0 0, .slice none 0 0, .slice none 0 0] 37)); have hbl : w8.heap.size < (w8.alloc (.cells #[.slice none 0 0, .slice none 0 0, .slice none 0 0] 37)).heap.size := by simp) | skip); try (obtain ⟨⟨z0, z1⟩, ⟨z2, z3⟩, ⟨z4, z5⟩⟩ := blk3_put hbk (.slice A3 0 c3) (.slice D3 1 d3) (.slice E3 1 e3); have HP := Aside0.mk (And.intro (box_put3 (n := 0) (n' := 1) (m := 1) hbk hm3 (by first | exact hbl | (simp; done)) rfl rfl rfl) (HSB.out (HSE.out 2 (.slice E3 1 e3) (HSE.out 1 (.slice D3 1 d3) (HSE.out 0 (.slice A3 0 c3) hS9 (at_leW hbk (by first | exact Nat.le_refl _ | assumption))) (at_leW hbk (by first | exact Nat.le_refl _ | assumption))) (at_leW hbk (by first | exact Nat.le_refl _ | assumption))))); clear hbk); clear hm3 hb9; clear hS9)
        | (go_at_call 28; refine (of_rep (n := 0) (n' := 1) (Hu7.out.rd.step (HSB.out (by assumption))) unit_sm rfl rfl 1).mono ?_; rintro e w8 ⟨Aq, cq, Dq, dq, Eq, eq, rfl, hq, hb8⟩; have hS8 := HST.out (by assumption) hb8; have HS8A := Aside0.mk hS8; have HQ := Aside0.mk hq; have hg8 : WA.heap.size ≤ w8.heap.size := (HSB.out hS8).size; try (have hbk := (hb8.block WA.heap.size (by simp)).trans (heap_alloc_new WA.drew (.cells #[.slice none 0 0, .slice none 0 0, .slice none 0 0] 37)); have hbl := (Array.getElem?_eq_some_iff.1 hbk).1); clear hq hb8; clear hS8))
    all_goals
      first
      | (have hgd := HP; clear hgd; (try (go_wp2_with fail)); go_meet; case rel => exact ⟨_, _, _, _, _, _, _, rfl, rfl, ⟨HP.out.1, HP.out.2⟩⟩)
      | ((try (go_wp2_with fail)); go_meet; case rel => exact ⟨w9.heap.size, _, _, _, _, _, _, rfl, rfl, ⟨WBx.new HJ.out.1.rd rfl rfl rfl, below_alloc (HSB.out HS9A.out) _⟩⟩)
  case rest =>
    obtain ⟨gt, At, ct, Dt, dt, Et, et, rfl, rfl, HR⟩ := hcut
    obtain ⟨qt, rfl, hqt⟩ := at_int' HR.out.1.rd.w (Below.refl _ _) 0 (by decide) (by simp)
    simp only [Int.toNat_zero, Addr.add_zero'] at hqt
    replace hqt : World.cell? _ qt = some (.int .i64 a) := hqt
    have HBt := Aside0.mk (below_then HB7.out HB7.out.size HR.out.2)
    have Hut := Aside0.mk (Hu7.out.step HR.out.2)
    have yt0 : World.cell? _ ⟨gt, 0, none⟩ = some (.slice At 0 ct) := (blk3_c HR.out.1.blk).1
    have yt1 : World.cell? _ ⟨gt, 1, none⟩ = some (.slice Dt 1 dt) := (blk3_c HR.out.1.blk).2.1
    have yt2 : World.cell? _ ⟨gt, 2, none⟩ = some (.slice (some qt) 1 et) := (blk3_c HR.out.1.blk).2.2
    have yu0 : World.cell? _ ⟨gu, 0, none⟩ = some (.slice none 0 0) := blk2_c0 Hut.out.blk
    have yu1 : World.cell? _ ⟨gu, 1, none⟩ = some (.slice (some ⟨w1.heap.size + 1, 0, none⟩) 1 1) := blk2_c1 Hut.out.blk
    go_wp2_with (go_at_call 29; refine (refsame_any HR.out.1.rd.rel Hut.out.rd (by simp) (by simp) (by simp) (by simp) true (by simp)).mono ?_; rintro e w10 ⟨rfl, hb⟩; have HB10 := Aside0.mk (below_then HBt.out HBt.out.size hb); clear hb)
    go_ret
    exact ⟨rfl, HB10.out⟩
set_option maxHeartbeats 8000000 in
set_option maxRecDepth 100000 in
theorem weighedges_o0 (a b : Int) (w : World) (htab : Tab w) (h1 : a < -4611686018427387904) :
    Calls Tryz.prog 10 #[.int .i64 a, .int .i64 b] w fun e w' => e = .returned (.bool true) ∧ Below w.heap.size w w' := by
  have HT := Aside0.mk htab
  clear htab
  have g1 : decide (a < -4611686018427387904) = true := decide_eq_true (by omega)
  go_enter Tryz.func10, Tryz.ntmps10
  go_wp2_with (go_at_call 12; refine (shown4_any _ HT.out).mono ?_; rintro e w1 ⟨rfl, hb⟩; have HB1 := Aside0.mk hb; clear hb)
  all_goals
    go_ret
    exact ⟨rfl, HB1.out⟩
set_option maxHeartbeats 8000000 in
set_option maxRecDepth 100000 in
theorem weighedges_o1 (a b : Int) (w : World) (htab : Tab w) (h1 : 4611686018427387904 < a) :
    Calls Tryz.prog 10 #[.int .i64 a, .int .i64 b] w fun e w' => e = .returned (.bool true) ∧ Below w.heap.size w w' := by
  have HT := Aside0.mk htab
  clear htab
  have g1 : decide (a < -4611686018427387904) = false := decide_eq_false (by omega)
  have g2 : decide (4611686018427387904 < a) = true := decide_eq_true (by omega)
  go_enter Tryz.func10, Tryz.ntmps10
  go_wp2_with (go_at_call 12; refine (shown4_any _ HT.out).mono ?_; rintro e w1 ⟨rfl, hb⟩; have HB1 := Aside0.mk hb; clear hb)
  all_goals
    go_ret
    exact ⟨rfl, HB1.out⟩
set_option maxHeartbeats 8000000 in
set_option maxRecDepth 100000 in
theorem weighedges_o2 (a b : Int) (w : World) (htab : Tab w) (h1 : -4611686018427387904 ≤ a) (h2 : a ≤ 4611686018427387904) (h3 : b < -4611686018427387904) :
    Calls Tryz.prog 10 #[.int .i64 a, .int .i64 b] w fun e w' => e = .returned (.bool true) ∧ Below w.heap.size w w' := by
  have HT := Aside0.mk htab
  clear htab
  have g1 : decide (a < -4611686018427387904) = false := decide_eq_false (by omega)
  have g2 : decide (4611686018427387904 < a) = false := decide_eq_false (by omega)
  have g3 : decide (b < -4611686018427387904) = true := decide_eq_true (by omega)
  go_enter Tryz.func10, Tryz.ntmps10
  go_wp2_with (go_at_call 12; refine (shown4_any _ HT.out).mono ?_; rintro e w1 ⟨rfl, hb⟩; have HB1 := Aside0.mk hb; clear hb)
  all_goals
    go_ret
    exact ⟨rfl, HB1.out⟩
set_option maxHeartbeats 8000000 in
set_option maxRecDepth 100000 in
theorem weighedges_o3 (a b : Int) (w : World) (htab : Tab w) (h1 : -4611686018427387904 ≤ a) (h2 : a ≤ 4611686018427387904) (h3 : 4611686018427387904 < b) :
    Calls Tryz.prog 10 #[.int .i64 a, .int .i64 b] w fun e w' => e = .returned (.bool true) ∧ Below w.heap.size w w' := by
  have HT := Aside0.mk htab
  clear htab
  have g1 : decide (a < -4611686018427387904) = false := decide_eq_false (by omega)
  have g2 : decide (4611686018427387904 < a) = false := decide_eq_false (by omega)
  have g3 : decide (b < -4611686018427387904) = false := decide_eq_false (by omega)
  have g4 : decide (4611686018427387904 < b) = true := decide_eq_true (by omega)
  go_enter Tryz.func10, Tryz.ntmps10
  go_wp2_with (go_at_call 12; refine (shown4_any _ HT.out).mono ?_; rintro e w1 ⟨rfl, hb⟩; have HB1 := Aside0.mk hb; clear hb)
  all_goals
    go_ret
    exact ⟨rfl, HB1.out⟩
theorem weighedges_walk (a b : Int) (w : World) (htab : Tab w) :
    Calls Tryz.prog 10 #[.int .i64 a, .int .i64 b] w fun e w' => e = .returned (.bool true) ∧ Below w.heap.size w w' := by
  by_cases h1 : a < -4611686018427387904
  · exact weighedges_o0 a b w htab h1
  by_cases h2 : 4611686018427387904 < a
  · exact weighedges_o1 a b w htab h2
  by_cases h3 : b < -4611686018427387904
  · exact weighedges_o2 a b w htab (by omega) (by omega) h3
  by_cases h4 : 4611686018427387904 < b
  · exact weighedges_o3 a b w htab (by omega) (by omega) h4
  have ha : a.natAbs ≤ 4611686018427387904 := by omega
  have hb : b.natAbs ≤ 4611686018427387904 := by omega
  by_cases hf : (a + b).natAbs ≤ 4611686018427387904
  · by_cases hs : (a.natAbs : Int) + b.natAbs ≤ 4611686018427387904
    · exact weighedges_yy a b w htab ha hb rfl hf hs
    · exact weighedges_yn a b w htab ha hb rfl hf hs
  · have hs : ¬ (a.natAbs : Int) + b.natAbs ≤ 4611686018427387904 := by omega
    rcases wrap_out ha hb hf with h | h
    · exact weighedges_nl a b w htab ha hb rfl hf hs h
    · exact weighedges_nh a b w htab ha hb rfl hf hs h
end Go.Proofs.YtlmkgghpaaadhaaGreatDoor.G

namespace Go.Proofs.YtlmkgghpaaadhaaGreatDoor.weighEdges
open Go.ChangeShapes Go.WideShapes Go.ChangeAt Go.RowKit Go.Proofs.YtlmkgghpaaadhaaGreatDoorW.PrintWords Go.Proofs.YtlmkgghpaaadhaaGreatDoorW.PrintLast Go.Proofs.YtlmkgghpaaadhaaGreatDoorW.PrintMore Go.Proofs.YtlmkgghpaaadhaaGreatDoor.PRefs
set_option linter.unusedVariables false
theorem own : ownKnob Tryz.prog.godebug = none := by kernel_rfl
theorem laidOut : laidOutB Tryz.prog = true := by kernel_rfl
set_option maxRecDepth 100000 in
theorem lifted (os : Os) (started : os.Started) (H : Type) (enc : TypeId × Value → H) :
    ReturnsInHanded {} Tryz.checked os 10 .any (fun w args => (Rows.weighEdgesSpec.pre enc Tryz.prog Tryz.f10 [] false w args ∧ laidMetH Tryz.prog G.laidList w) ∧ sizedMet enc Tryz.prog Tryz.f10 (OpenSpec.ofChange Rows.weighEdgesSpec) false w args)
      (Rows.weighEdgesSpec.post enc Tryz.prog Tryz.f10 false true false false) := by
  refine returnsInHanded_of_change_and (C := Tryz.checked) (X := fun w _ => laidMetH Tryz.prog G.laidList w) (fun _ _ _ hh h => h.of_heap hh) own started (by kernel_rfl) Tryz.func10
    (ChangeSpec.witness_shaped (enc := enc) (C := Tryz.checked) (os := os) (X := fun w _ => laidMetH Tryz.prog G.laidList w) false (World.doorLaid Tryz.prog 400 os) #[.int .i64 0, .int .i64 0] 8 rfl (World.shaped_of_RefB (by kernel_rfl) (by kernel_rfl)) (by kernel_rfl) (by kernel_rfl) (by kernel_rfl) (G.door_met os _)) ?_
  intro W base args ds gs before hval0 hW _ _ hL _
  have htab := G.tab_of hL
  have hval : ∀ (j : Nat) t v, Tryz.f10.params[j]? = some t → args[j]? = some v → Value.okWide Tryz.prog W .any base t v := hval0
  have hW' := hW
  obtain ⟨p, q, hA0, hV, rfl, hfz, hnd⟩ := hW
  have hA : DataW.TrodAll enc Tryz.prog W 0 (fun _ => true) true Tryz.f10.params.toList args.toList ds p := hA0
  rw [Tryz.params10] at hA hval
  obtain ⟨v0, vs0, d0, ds0, p0, q0, hargs, rfl, rfl, h0, r0⟩ := trodAll_cons hA
  obtain ⟨v1, vs1, d1, ds1, p1, q1, rfl, rfl, rfl, h1, r1⟩ := trodAll_cons r0
  obtain ⟨rfl, rfl, rfl⟩ := trodAll_nil r1
  obtain rfl : args = #[v0, v1] := by cases args; simp_all
  obtain ⟨rfl, rfl⟩ := trodVars_none hV
  obtain ⟨a0, rfl, rfl, rfl, w0⟩ := open_int Tryz.underlying2 (hval 0 2 v0 rfl rfl) h0
  obtain ⟨a1, rfl, rfl, rfl, w1⟩ := open_int Tryz.underlying2 (hval 1 2 v1 rfl rfl) h1
  clear hA0 hval0
  refine (G.weighedges_walk a0 a1 W  htab).mono fun e W' ⟨he, bel⟩ => ?_
  subst he
  exact ⟨_, rfl, _, _, _, [], _, [], hW', trodAll_mk1 (shut_bool Tryz.underlying4 _), (trodAll_cons_mk (shut_int Tryz.underlying2 w0) (trodAll_cons_mk (shut_int Tryz.underlying2 w1) trodAll_mk0)), rfl, bel.frame _, fun h => by cases h⟩
theorem over : Rows.weighEdgesRow.holds Tryz.pinned (OpenSpec.ofChange Rows.weighEdgesSpec) :=
  OpenClaim.holds_of_wide 10 Tryz.f10 rfl rfl rfl rfl rfl rfl rfl ⟨rfl, rfl, rfl, rfl, rfl⟩ rfl rfl rfl rfl rfl (by kernel_rfl) Tryz.func10 (by kernel_rfl)
    (of_decide_eq_true (by kernel_rfl)) (by unfold Func.isWrapper; first | (rw [if_pos (by decide +kernel)]; kernel_rfl) | (rw [if_neg (by decide +kernel)]; exact ⟨rfl, rfl⟩))
    (fun os started H enc _ => lifted os started H enc)
theorem proved : Rows.WeighEdgesCardSaid :=
  Claim7.holds_tied_plain_at .later [] [.data, .data, .data] true Rows.weighEdgesCard.stood.harness true
    over (fun _ h => by cases h) (by kernel_rfl) (fun _ h => by cases h) weighEdges_row_tie rfl ⟨rfl, rfl⟩ (by kernel_rfl) rfl
    (fun f fn hf hfn => by
      obtain rfl : f = 10 := Option.some.inj ((show Tryz.prog.funcNamed "arborist/arboristlaw04.WeighEdges" = some 10 by kernel_rfl).symm.trans hf) |>.symm
      obtain rfl : fn = Tryz.f10 := (Option.some.inj (Tryz.func10.symm.trans hfn)).symm
      exact ⟨by kernel_rfl, fun j t ht => by
        rw [Tryz.params10] at ht
        have hm : t ∈ [2, 2] := by simpa using Array.mem_of_getElem? ht
        have hall : ([2, 2].all fun u => !Tryz.prog.wantsStandIn u) = true := by kernel_rfl
        exact (show Tryz.prog.wantsStandIn t = false by simpa using List.all_eq_true.1 hall t hm)⟩)
    (by kernel_rfl)
#print axioms proved
end Go.Proofs.YtlmkgghpaaadhaaGreatDoor.weighEdges
