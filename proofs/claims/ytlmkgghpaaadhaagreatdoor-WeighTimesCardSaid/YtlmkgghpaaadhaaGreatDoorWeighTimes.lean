/- Proved: for every input the law arboristlaw04.WeighTimes returns true and its arguments read as they did; what the program's tables hold at the start is tied to the program's text. No condition. -/
import Derived.Test.YtlmkgghpaaadhaaGreatDoorRows
import Derived.Test.YtlmkgghpaaadhaaGreatDoorCards
import Derived.Test.YtlmkgghpaaadhaaGreatDoorTie
import Derived.Test.YtlmkgghpaaadhaaGreatDoorND
import Derived.Deep.Matrix
import Derived.ProofKit
import Derived.OpenShut
import Derived.WalkKit
import Derived.ShutString
import Derived.ChangeOld
import Derived.Below
import Derived.SevenTiedAt
import Derived.Stop.Joined
import Derived.Deep.DeepCutAuto
set_option linter.unusedVariables false
set_option linter.unusedSimpArgs false
namespace Go.Proofs.YtlmkgghpaaadhaaGreatDoor.G
open Go.RowKit Go.Proofs.YtlmkgghpaaadhaaGreatDoorW.PrintWords Go.Proofs.YtlmkgghpaaadhaaGreatDoorW.PrintLast Go.Proofs.YtlmkgghpaaadhaaGreatDoorW.PrintMore Go.Proofs.YtlmkgghpaaadhaaGreatDoor.PRefs
attribute [local go_sem] min2_mn min_two

theorem joinRows_le (sa : List Int) (La : List (List Int)) (sb : List Int) (Lb : List (List Int)) : (joinRows sa La sb Lb).length ≤ La.length * Lb.length := by
  unfold joinRows
  refine Nat.le_trans (Pl.sortU_length_le _) ?_
  have hk : ∀ l : List (List Int), (l.flatMap (w1o sa sb Lb)).length ≤ l.length * Lb.length := fun l => by
    induction l with
    | nil => simp
    | cons t l ih => rw [List.flatMap_cons, List.length_append, List.length_cons, Nat.succ_mul]; have := w1o_len sa sb Lb t; omega
  exact hk La
set_option maxHeartbeats 8000000 in
set_option maxRecDepth 100000 in
theorem weightimes_walk (A0 : Option Addr) (c0 : Nat) (sx : List Int) (B0 : Option Addr) (d0 : Nat) (rx : List (List Int)) (E0 : Option Addr) (e0 : Nat) (ax : List Int) (F0 : Option Addr) (n0 f0 : Nat) (A1 : Option Addr) (c1 : Nat) (sy : List Int) (B1 : Option Addr) (d1 : Nat) (ry : List (List Int)) (E1 : Option Addr) (e1 : Nat) (ay : List Int) (F1 : Option Addr) (n1 f1 : Nat) (rows : Int) (w : World) (hr0 : RelRd w A0 c0 sx B0 d0 rx) (ha0 : Kd.C KI w E0 ax.length ax) (hn0 : n0 ≤ 9223372036854775807) (hr1 : RelRd w A1 c1 sy B1 d1 ry) (ha1 : Kd.C KI w E1 ay.length ay) (hn1 : n1 ≤ 9223372036854775807) (htab : Tab w) :
    Calls Tryz.prog 3 #[.agg #[.slice A0 sx.length c0, .slice B0 rx.length d0, .slice E0 ax.length e0, .slice F0 n0 f0], .agg #[.slice A1 sy.length c1, .slice B1 ry.length d1, .slice E1 ay.length e1, .slice F1 n1 f1], .int .i64 rows] w fun e w' => e = .returned (.bool true) ∧ Below w.heap.size w w' := by
  have HT := Aside0.mk htab
  clear htab
  obtain ⟨sx', hs⟩ : ∃ s, smallS3 sx = s := ⟨_, rfl⟩
  obtain ⟨Rx, hR⟩ : ∃ R, smallRows3 sx'.length rx = R := ⟨_, rfl⟩
  obtain ⟨wx, hw⟩ : ∃ ws, (List.range Rx.length).map (refV 4611686018427387904 ax) = ws := ⟨_, rfl⟩
  have HFx := Aside0.mk (big_of hs hR hw)
  have HEx := Aside0.mk (And.intro hs (And.intro hR hw))
  have hRlx : Rx.length ≤ 12 := HFx.out.2.2.l
  clear hs hR hw
  obtain ⟨sy', hs⟩ : ∃ s, smallS3 sy = s := ⟨_, rfl⟩
  obtain ⟨Ry, hR⟩ : ∃ R, smallRows3 sy'.length ry = R := ⟨_, rfl⟩
  obtain ⟨wy, hw⟩ : ∃ ws, (List.range Ry.length).map (refV 4611686018427387904 ay) = ws := ⟨_, rfl⟩
  have HFy := Aside0.mk (big_of hs hR hw)
  have HEy := Aside0.mk (And.intro hs (And.intro hR hw))
  have hRly : Ry.length ≤ 12 := HFy.out.2.2.l
  clear hs hR hw
  obtain ⟨⟨UT, JT, ST⟩, et, hT⟩ : ∃ P e, joinedTo fTimes ⟨sx', Rx, wx⟩ ⟨sy', Ry, wy⟩ rows = (P, e) := ⟨_, _, rfl⟩
  obtain ⟨⟨UP, JP, SP⟩, ep, hP⟩ : ∃ P e, joinedTo fPlus ⟨sx', Rx, wx⟩ ⟨sy', Ry, wy⟩ rows = (P, e) := ⟨_, _, rfl⟩
  have hfT := joinedTo_fits HFx.out.2.2.rt.r HFy.out.2.2.rt.r hT
  have hfP := joinedTo_fits HFx.out.2.2.rt.r HFy.out.2.2.rt.r hP
  have hmul : Rx.length * Ry.length ≤ 144 := Nat.le_trans (Nat.mul_le_mul HFx.out.2.2.l HFy.out.2.2.l) (by decide)
  have hsx : sx'.length ≤ 3 := HFx.out.2.2.s
  have hsy : sy'.length ≤ 3 := HFy.out.2.2.s
  have hUT : UT.length ≤ 6 := by have := hfT.2.1; omega
  have hUP : UP.length ≤ 6 := by have := hfP.2.1; omega
  have hJT : JT.length ≤ 144 := Nat.le_trans hfT.2.2.1 hmul
  have hJP : JP.length ≤ 144 := Nat.le_trans hfP.2.2.1 hmul
  have HmT := Aside0.mk (show ∀ x ∈ JT, x.length ≤ 1000000 from fun x hx => by rw [hfT.2.2.2 x hx]; omega)
  have HmP := Aside0.mk (show ∀ x ∈ JP, x.length ≤ 1000000 from fun x hx => by rw [hfP.2.2.2 x hx]; omega)
  have HJR := Aside0.mk (show (joinRows sx' Rx sy' Ry).length ≤ 1000000 from Nat.le_trans (joinRows_le _ _ _ _) (by omega))
  have HTT := Aside0.mk (And.intro hT hfT.1)
  have HPP := Aside0.mk (And.intro hP hfP.1)
  clear hT hP hfT hfP hmul
  obtain ⟨W0, hW0⟩ : ∃ W0, (w.alloc (.cells #[.slice A0 sx.length c0, .slice B0 rx.length d0, .slice E0 ax.length e0, .slice F0 n0 f0] 26)).alloc (.cells #[.slice A1 sy.length c1, .slice B1 ry.length d1, .slice E1 ay.length e1, .slice F1 n1 f1] 26) = W0 := ⟨_, rfl⟩
  have HB0 := Aside0.mk (show Below w.heap.size w W0 from by rw [← hW0]; exact below_alloc (below_alloc (Below.refl _ _) _) _)
  have Hx0 := Aside0.mk (show P4Bx W0 w.heap.size A0 c0 sx B0 d0 rx E0 e0 ax F0 n0 f0 from ⟨by rw [← hW0]; exact blk_two1 _ _ _, hr0.step HB0.out, Kd.C_below ha0 HB0.out⟩)
  have Hy0 := Aside0.mk (show P4Bx W0 (w.heap.size + 1) A1 c1 sy B1 d1 ry E1 e1 ay F1 n1 f1 from ⟨by rw [← hW0]; exact blk_two2 _ _ _, hr1.step HB0.out, Kd.C_below ha1 HB0.out⟩)
  clear hr0 ha0 hr1 ha1
  have yx0_0 : World.cell? _ ⟨w.heap.size, 0, none⟩ = some (.slice A0 sx.length c0) := (blk4_c Hx0.out.blk).1
  have yx1_0 : World.cell? _ ⟨w.heap.size, 1, none⟩ = some (.slice B0 rx.length d0) := (blk4_c Hx0.out.blk).2.1
  have yx2_0 : World.cell? _ ⟨w.heap.size, 2, none⟩ = some (.slice E0 ax.length e0) := (blk4_c Hx0.out.blk).2.2.1
  have yx3_0 : World.cell? _ ⟨w.heap.size, 3, none⟩ = some (.slice F0 n0 f0) := (blk4_c Hx0.out.blk).2.2.2
  have yy0_0 : World.cell? _ ⟨w.heap.size + 1, 0, none⟩ = some (.slice A1 sy.length c1) := (blk4_c Hy0.out.blk).1
  have yy1_0 : World.cell? _ ⟨w.heap.size + 1, 1, none⟩ = some (.slice B1 ry.length d1) := (blk4_c Hy0.out.blk).2.1
  have yy2_0 : World.cell? _ ⟨w.heap.size + 1, 2, none⟩ = some (.slice E1 ay.length e1) := (blk4_c Hy0.out.blk).2.2.1
  have yy3_0 : World.cell? _ ⟨w.heap.size + 1, 3, none⟩ = some (.slice F1 n1 f1) := (blk4_c Hy0.out.blk).2.2.2
  go_enter Tryz.func3, Tryz.ntmps3
  go_upto_region 2 with (go_at_call 12; refine (shown4_any _ (HT.out.step HB0.out)).mono ?_; rintro e w1 ⟨rfl, hb⟩; have HB1 := Aside0.mk (below_then HB0.out HB0.out.size hb); have Hx1 := Aside0.mk (Hx0.out.step hb); have Hy1 := Aside0.mk (Hy0.out.step hb); have yx0_1 : World.cell? _ ⟨w.heap.size, 0, none⟩ = some (.slice A0 sx.length c0) := (blk4_c Hx1.out.blk).1; have yx1_1 : World.cell? _ ⟨w.heap.size, 1, none⟩ = some (.slice B0 rx.length d0) := (blk4_c Hx1.out.blk).2.1; have yx2_1 : World.cell? _ ⟨w.heap.size, 2, none⟩ = some (.slice E0 ax.length e0) := (blk4_c Hx1.out.blk).2.2.1; have yx3_1 : World.cell? _ ⟨w.heap.size, 3, none⟩ = some (.slice F0 n0 f0) := (blk4_c Hx1.out.blk).2.2.2; have yy0_1 : World.cell? _ ⟨w.heap.size + 1, 0, none⟩ = some (.slice A1 sy.length c1) := (blk4_c Hy1.out.blk).1; have yy1_1 : World.cell? _ ⟨w.heap.size + 1, 1, none⟩ = some (.slice B1 ry.length d1) := (blk4_c Hy1.out.blk).2.1; have yy2_1 : World.cell? _ ⟨w.heap.size + 1, 2, none⟩ = some (.slice E1 ay.length e1) := (blk4_c Hy1.out.blk).2.2.1; have yy3_1 : World.cell? _ ⟨w.heap.size + 1, 3, none⟩ = some (.slice F1 n1 f1) := (blk4_c Hy1.out.blk).2.2.2; clear hb yx0_0 yx1_0 yx2_0 yx3_0 yy0_0 yy1_0 yy2_0 yy3_0)
  clear hW0
  go_upto_region 3 with (go_at_call 13; refine (limits_any _).mono ?_; rintro e w2 ⟨rfl, hb⟩; have HB2 := Aside0.mk (below_then HB1.out HB1.out.size hb); have Hx2 := Aside0.mk (Hx1.out.step hb); have Hy2 := Aside0.mk (Hy1.out.step hb); have yx0_2 : World.cell? _ ⟨w.heap.size, 0, none⟩ = some (.slice A0 sx.length c0) := (blk4_c Hx2.out.blk).1; have yx1_2 : World.cell? _ ⟨w.heap.size, 1, none⟩ = some (.slice B0 rx.length d0) := (blk4_c Hx2.out.blk).2.1; have yx2_2 : World.cell? _ ⟨w.heap.size, 2, none⟩ = some (.slice E0 ax.length e0) := (blk4_c Hx2.out.blk).2.2.1; have yx3_2 : World.cell? _ ⟨w.heap.size, 3, none⟩ = some (.slice F0 n0 f0) := (blk4_c Hx2.out.blk).2.2.2; have yy0_2 : World.cell? _ ⟨w.heap.size + 1, 0, none⟩ = some (.slice A1 sy.length c1) := (blk4_c Hy2.out.blk).1; have yy1_2 : World.cell? _ ⟨w.heap.size + 1, 1, none⟩ = some (.slice B1 ry.length d1) := (blk4_c Hy2.out.blk).2.1; have yy2_2 : World.cell? _ ⟨w.heap.size + 1, 2, none⟩ = some (.slice E1 ay.length e1) := (blk4_c Hy2.out.blk).2.2.1; have yy3_2 : World.cell? _ ⟨w.heap.size + 1, 3, none⟩ = some (.slice F1 n1 f1) := (blk4_c Hy2.out.blk).2.2.2; clear hb yx0_1 yx1_1 yx2_1 yx3_1 yy0_1 yy1_1 yy2_1 yy3_1)
  go_upto_region 4 with (go_at_call 14; refine (ref_is (n' := Rx.length) Hx2.out 4611686018427387904 (by decide) (by decide) hn0 HEx.out.1 HEx.out.2.1 rfl rfl).mono ?_; rintro e w3 ⟨Aa, ca, Da, da, Ea, ea, rfl, hM, hD, hb⟩; have hx := below_box hb (.cells #[.slice Aa sx'.length ca, .slice Da Rx.length da, .slice Ea Rx.length ea] 34); have HB3 := Aside0.mk (below_then HB2.out HB2.out.size hx); have Hy3 := Aside0.mk (Hy2.out.step hx); have Ha3 := Aside0.mk (DBx.new (n := sx'.length) (n' := Rx.length) (c4 := ea) (D := dW wx) hM (by rw [refW_dW, HEx.out.2.2] at hD; exact hD)); have yy0_3 : World.cell? _ ⟨w.heap.size + 1, 0, none⟩ = some (.slice A1 sy.length c1) := (blk4_c Hy3.out.blk).1; have yy1_3 : World.cell? _ ⟨w.heap.size + 1, 1, none⟩ = some (.slice B1 ry.length d1) := (blk4_c Hy3.out.blk).2.1; have yy2_3 : World.cell? _ ⟨w.heap.size + 1, 2, none⟩ = some (.slice E1 ay.length e1) := (blk4_c Hy3.out.blk).2.2.1; have yy3_3 : World.cell? _ ⟨w.heap.size + 1, 3, none⟩ = some (.slice F1 n1 f1) := (blk4_c Hy3.out.blk).2.2.2; have ya0_3 : World.cell? _ ⟨w3.heap.size, 0, none⟩ = some (.slice Aa sx'.length ca) := (blk3_c Ha3.out.blk).1; have ya1_3 : World.cell? _ ⟨w3.heap.size, 1, none⟩ = some (.slice Da Rx.length da) := (blk3_c Ha3.out.blk).2.1; have ya2_3 : World.cell? _ ⟨w3.heap.size, 2, none⟩ = some (.slice Ea Rx.length ea) := (blk3_c Ha3.out.blk).2.2; clear hM hD hb hx yx0_2 yx1_2 yx2_2 yx3_2 yy0_2 yy1_2 yy2_2 yy3_2)
  go_upto_region 5 with (go_at_call 14; refine (ref_is (n' := Ry.length) Hy3.out 4611686018427387904 (by decide) (by decide) hn1 HEy.out.1 HEy.out.2.1 rfl rfl).mono ?_; rintro e w4 ⟨Ab, cb, Db, db, Eb, eb, rfl, hM, hD, hb⟩; have hx := below_box hb (.cells #[.slice Ab sy'.length cb, .slice Db Ry.length db, .slice Eb Ry.length eb] 34); have HB4 := Aside0.mk (below_then HB3.out HB3.out.size hx); have Ha4 := Aside0.mk (Ha3.out.step hx); have Hb4 := Aside0.mk (DBx.new (n := sy'.length) (n' := Ry.length) (c4 := eb) (D := dW wy) hM (by rw [refW_dW, HEy.out.2.2] at hD; exact hD)); have ya0_4 : World.cell? _ ⟨w3.heap.size, 0, none⟩ = some (.slice Aa sx'.length ca) := (blk3_c Ha4.out.blk).1; have ya1_4 : World.cell? _ ⟨w3.heap.size, 1, none⟩ = some (.slice Da Rx.length da) := (blk3_c Ha4.out.blk).2.1; have ya2_4 : World.cell? _ ⟨w3.heap.size, 2, none⟩ = some (.slice Ea Rx.length ea) := (blk3_c Ha4.out.blk).2.2; have yb0_4 : World.cell? _ ⟨w4.heap.size, 0, none⟩ = some (.slice Ab sy'.length cb) := (blk3_c Hb4.out.blk).1; have yb1_4 : World.cell? _ ⟨w4.heap.size, 1, none⟩ = some (.slice Db Ry.length db) := (blk3_c Hb4.out.blk).2.1; have yb2_4 : World.cell? _ ⟨w4.heap.size, 2, none⟩ = some (.slice Eb Ry.length eb) := (blk3_c Hb4.out.blk).2.2; clear hM hD hb hx yy0_3 yy1_3 yy2_3 yy3_3 ya0_3 ya1_3 ya2_3)
  clear ya0_4 ya1_4 ya2_4 yb0_4 yb1_4 yb2_4
  generalize (w4.alloc (.cells #[.slice Ab sy'.length cb, .slice Db Ry.length db, .slice Eb Ry.length eb] 34)) = WA at HB4 Ha4 Hb4 ⊢
  generalize w3.heap.size = ga at Ha4 ⊢
  generalize w4.heap.size = gb at Hb4 ⊢
  have HNA := Ha4
  have HNB := Hb4
  have HBW := HB4
  have HTW := Aside0.mk (HT.out.step HB4.out)
  clear Ha4 Hb4 HB4
  go_cut [12, 13] (fun s17 s18 wx => ∃ (g : Nat) (A : Option Addr) (c : Nat) (D : Option Addr) (d : Nat) (E : Option Addr) (e : Nat), s17 = .pointer (some ⟨g, 0, none⟩) ∧ s18 = .int .i64 et ∧ Aside0 (WBx wx g A c UT.length UT D d JT.length JT E e JT.length ST ∧ Below WA.heap.size WA wx))
  case first =>
    have HST := Aside0.mk (show ∀ {W W1 : World}, (W.cell? ⟨ga, 0, none⟩ = some (.slice Aa sx'.length ca) ∧ W.cell? ⟨ga, 1, none⟩ = some (.slice Da Rx.length da) ∧ W.cell? ⟨ga, 2, none⟩ = some (.slice Ea Rx.length ea) ∧ W.cell? ⟨gb, 0, none⟩ = some (.slice Ab sy'.length cb) ∧ W.cell? ⟨gb, 1, none⟩ = some (.slice Db Ry.length db) ∧ W.cell? ⟨gb, 2, none⟩ = some (.slice Eb Ry.length eb) ∧ Below WA.heap.size WA W) → Below W.heap.size W W1 → (W1.cell? ⟨ga, 0, none⟩ = some (.slice Aa sx'.length ca) ∧ W1.cell? ⟨ga, 1, none⟩ = some (.slice Da Rx.length da) ∧ W1.cell? ⟨ga, 2, none⟩ = some (.slice Ea Rx.length ea) ∧ W1.cell? ⟨gb, 0, none⟩ = some (.slice Ab sy'.length cb) ∧ W1.cell? ⟨gb, 1, none⟩ = some (.slice Db Ry.length db) ∧ W1.cell? ⟨gb, 2, none⟩ = some (.slice Eb Ry.length eb) ∧ Below WA.heap.size WA W1) from fun {W W1} h hb => ⟨(hb.cell (World.block_lt_of_cell? W _ h.1)).trans h.1, (hb.cell (World.block_lt_of_cell? W _ h.2.1)).trans h.2.1, (hb.cell (World.block_lt_of_cell? W _ h.2.2.1)).trans h.2.2.1, (hb.cell (World.block_lt_of_cell? W _ h.2.2.2.1)).trans h.2.2.2.1, (hb.cell (World.block_lt_of_cell? W _ h.2.2.2.2.1)).trans h.2.2.2.2.1, (hb.cell (World.block_lt_of_cell? W _ h.2.2.2.2.2.1)).trans h.2.2.2.2.2.1, below_then h.2.2.2.2.2.2 h.2.2.2.2.2.2.size hb⟩)
    have HSE := Aside0.mk (show ∀ {W : World} {g : Nat} (i : Nat) (u : Value), (W.cell? ⟨ga, 0, none⟩ = some (.slice Aa sx'.length ca) ∧ W.cell? ⟨ga, 1, none⟩ = some (.slice Da Rx.length da) ∧ W.cell? ⟨ga, 2, none⟩ = some (.slice Ea Rx.length ea) ∧ W.cell? ⟨gb, 0, none⟩ = some (.slice Ab sy'.length cb) ∧ W.cell? ⟨gb, 1, none⟩ = some (.slice Db Ry.length db) ∧ W.cell? ⟨gb, 2, none⟩ = some (.slice Eb Ry.length eb) ∧ Below WA.heap.size WA W) → WA.heap.size ≤ g → ((W.setCell ⟨g, i, none⟩ u).cell? ⟨ga, 0, none⟩ = some (.slice Aa sx'.length ca) ∧ (W.setCell ⟨g, i, none⟩ u).cell? ⟨ga, 1, none⟩ = some (.slice Da Rx.length da) ∧ (W.setCell ⟨g, i, none⟩ u).cell? ⟨ga, 2, none⟩ = some (.slice Ea Rx.length ea) ∧ (W.setCell ⟨g, i, none⟩ u).cell? ⟨gb, 0, none⟩ = some (.slice Ab sy'.length cb) ∧ (W.setCell ⟨g, i, none⟩ u).cell? ⟨gb, 1, none⟩ = some (.slice Db Ry.length db) ∧ (W.setCell ⟨g, i, none⟩ u).cell? ⟨gb, 2, none⟩ = some (.slice Eb Ry.length eb) ∧ Below WA.heap.size WA (W.setCell ⟨g, i, none⟩ u)) from fun {W g} i u h hg => ⟨cell_set_ne h.1 (by have hl := (Array.getElem?_eq_some_iff.1 HNA.out.blk).1; show (ga : Nat) ≠ g; omega) i u, cell_set_ne h.2.1 (by have hl := (Array.getElem?_eq_some_iff.1 HNA.out.blk).1; show (ga : Nat) ≠ g; omega) i u, cell_set_ne h.2.2.1 (by have hl := (Array.getElem?_eq_some_iff.1 HNA.out.blk).1; show (ga : Nat) ≠ g; omega) i u, cell_set_ne h.2.2.2.1 (by have hl := (Array.getElem?_eq_some_iff.1 HNB.out.blk).1; show (gb : Nat) ≠ g; omega) i u, cell_set_ne h.2.2.2.2.1 (by have hl := (Array.getElem?_eq_some_iff.1 HNB.out.blk).1; show (gb : Nat) ≠ g; omega) i u, cell_set_ne h.2.2.2.2.2.1 (by have hl := (Array.getElem?_eq_some_iff.1 HNB.out.blk).1; show (gb : Nat) ≠ g; omega) i u, h.2.2.2.2.2.2.setCell (p := ⟨g, i, none⟩) hg u⟩)
    have HSB := Aside0.mk (show ∀ {W : World}, (W.cell? ⟨ga, 0, none⟩ = some (.slice Aa sx'.length ca) ∧ W.cell? ⟨ga, 1, none⟩ = some (.slice Da Rx.length da) ∧ W.cell? ⟨ga, 2, none⟩ = some (.slice Ea Rx.length ea) ∧ W.cell? ⟨gb, 0, none⟩ = some (.slice Ab sy'.length cb) ∧ W.cell? ⟨gb, 1, none⟩ = some (.slice Db Ry.length db) ∧ W.cell? ⟨gb, 2, none⟩ = some (.slice Eb Ry.length eb) ∧ Below WA.heap.size WA W) → Below WA.heap.size WA W from fun {W} h => h.2.2.2.2.2.2)
    have HS0A := Aside0.mk (show (WA.cell? ⟨ga, 0, none⟩ = some (.slice Aa sx'.length ca) ∧ WA.cell? ⟨ga, 1, none⟩ = some (.slice Da Rx.length da) ∧ WA.cell? ⟨ga, 2, none⟩ = some (.slice Ea Rx.length ea) ∧ WA.cell? ⟨gb, 0, none⟩ = some (.slice Ab sy'.length cb) ∧ WA.cell? ⟨gb, 1, none⟩ = some (.slice Db Ry.length db) ∧ WA.cell? ⟨gb, 2, none⟩ = some (.slice Eb Ry.length eb) ∧ Below WA.heap.size WA WA) from ⟨(blk3_c HNA.out.blk).1, (blk3_c HNA.out.blk).2.1, (blk3_c HNA.out.blk).2.2, (blk3_c HNB.out.blk).1, (blk3_c HNB.out.blk).2.1, (blk3_c HNB.out.blk).2.2, Below.refl _ _⟩)
    have HSDA := Aside0.mk (HST.out HS0A.out (below_drew (Below.refl _ _)))
    have qq0 := HS0A.out.1
    have qq1 := HS0A.out.2.1
    have qq2 := HS0A.out.2.2.1
    have qq3 := HS0A.out.2.2.2.1
    have qq4 := HS0A.out.2.2.2.2.1
    have qq5 := HS0A.out.2.2.2.2.2.1
    go_region_held3 (fun W => W.cell? ⟨ga, 0, none⟩ = some (.slice Aa sx'.length ca) ∧ W.cell? ⟨ga, 1, none⟩ = some (.slice Da Rx.length da) ∧ W.cell? ⟨ga, 2, none⟩ = some (.slice Ea Rx.length ea) ∧ W.cell? ⟨gb, 0, none⟩ = some (.slice Ab sy'.length cb) ∧ W.cell? ⟨gb, 1, none⟩ = some (.slice Db Ry.length db) ∧ W.cell? ⟨gb, 2, none⟩ = some (.slice Eb Ry.length eb) ∧ Below WA.heap.size WA W)
      (first | with_reducible exact HS13A.out | with_reducible exact HS12A.out | with_reducible exact HS11A.out | with_reducible exact HSDA.out | with_reducible exact HS0A.out | with_reducible exact HST.out HS13A.out (below_alloc (Below.refl _ _) _) | with_reducible exact HST.out HS12A.out (below_alloc (Below.refl _ _) _) | with_reducible exact HST.out HS11A.out (below_alloc (Below.refl _ _) _) | with_reducible exact HST.out (by assumption) (below_alloc (Below.refl _ _) _) | with_reducible exact HST.out (by assumption) (below_drew (Below.refl _ _)) | with_reducible exact HSE.out _ _ (HSE.out _ _ (HSE.out _ _ HS13A.out (by first | assumption | exact Nat.le_refl _)) (by first | assumption | exact Nat.le_refl _)) (by first | assumption | exact Nat.le_refl _))
      (first
        | (have hgd := HS12A; clear hgd; go_at_call 15; refine (ptimes_is (HQ1.out.step (by first | exact Below.refl _ _ | exact below_drew (Below.refl _ _) | exact below_alloc (Below.refl _ _) _)) rfl rfl HFx.out.2.1 (HQ2.out.step (by first | exact Below.refl _ _ | exact below_drew (Below.refl _ _) | exact below_alloc (Below.refl _ _) _)) rfl rfl HFy.out.2.1 HFx.out.2.2.rt HFx.out.1 HFy.out.2.2.rt HFy.out.1 (by omega) (by omega) rows (HTW.out.step (HSB.out (by assumption))) HTT.out.1 rfl rfl HTT.out.2).mono ?_; rintro e w13 ⟨A3, c3, D3, d3, E3, e3, rfl, hm3, hb13⟩; have hS13 := HST.out (by assumption) hb13; have HS13A := Aside0.mk hS13; have HJ := Aside0.mk (And.intro hm3 hb13); have hg13 : WA.heap.size ≤ w13.heap.size := (HSB.out hS13).size; (first | (have hbk := (hb13.block _ (Array.getElem?_eq_some_iff.1 hbk).1).trans hbk) | (have hbk := (hb13.block w12.heap.size (by simp)).trans (heap_alloc_new w12 (.cells #[.slice none 0 0, .slice none 0 0, .slice none 0 0] 37)); have hbl : w12.heap.size < (w12.alloc (.cells #[.slice none 0 0, .slice none 0 0, .slice none 0 0] 37)).heap.size := by simp) | skip); try (obtain ⟨⟨z0, z1⟩, ⟨z2, z3⟩, ⟨z4, z5⟩⟩ := blk3_put hbk (.slice A3 UT.length c3) (.slice D3 JT.length d3) (.slice E3 JT.length e3); have HP := Aside0.mk (And.intro (box_put3 (n := UT.length) (n' := JT.length) (m := JT.length) hbk hm3 (by first | exact hbl | (simp; done)) rfl rfl HTT.out.2) (HSB.out (HSE.out 2 (.slice E3 JT.length e3) (HSE.out 1 (.slice D3 JT.length d3) (HSE.out 0 (.slice A3 UT.length c3) hS13 (at_leW hbk (by first | exact Nat.le_refl _ | assumption))) (at_leW hbk (by first | exact Nat.le_refl _ | assumption))) (at_leW hbk (by first | exact Nat.le_refl _ | assumption))))); clear hbk); clear hm3 hb13; clear hS13)
        | (have hgd := HS11A; clear hgd; go_at_call 16; refine (number_dw (HNB.out.rd.step (HSB.out (by assumption))) rfl rfl (Kd.C_below HNB.out.d (HSB.out (by assumption))) (by omega) HFy.out.2.1).mono ?_; rintro e w12 ⟨En, en, rfl, hq, hb12⟩; have hS12 := HST.out (by assumption) hb12; have HS12A := Aside0.mk hS12; have hx12 : Below w11.heap.size w11 w12 := (by first | exact hb12 | exact below_then (below_alloc (Below.refl _ _) _) (by simp) hb12); have HQ1 := Aside0.mk (HQ1.out.step hx12); have HQ2 := Aside0.mk hq; have hg12 : WA.heap.size ≤ w12.heap.size := (HSB.out hS12).size; (first | (have hbk := (hb12.block _ (Array.getElem?_eq_some_iff.1 hbk).1).trans hbk) | (have hbk := (hb12.block w11.heap.size (by simp)).trans (heap_alloc_new w11 (.cells #[.slice none 0 0, .slice none 0 0, .slice none 0 0] 37)); have hbl : w11.heap.size < (w11.alloc (.cells #[.slice none 0 0, .slice none 0 0, .slice none 0 0] 37)).heap.size := by simp) | skip); try (have hbl := (Array.getElem?_eq_some_iff.1 hbk).1); clear hq hx12 hb12; clear hS12)
        | (go_at_call 16; refine (number_dw (HNA.out.rd.step (HSB.out (by assumption))) rfl rfl (Kd.C_below HNA.out.d (HSB.out (by assumption))) (by omega) HFx.out.2.1).mono ?_; rintro e w11 ⟨Em, em, rfl, hq, hb11⟩; have hS11 := HST.out (by assumption) hb11; have HS11A := Aside0.mk hS11; have HQ1 := Aside0.mk hq; have hg11 : WA.heap.size ≤ w11.heap.size := (HSB.out hS11).size; try (have hbk := (hb11.block WA.heap.size (by simp)).trans (heap_alloc_new WA.drew (.cells #[.slice none 0 0, .slice none 0 0, .slice none 0 0] 37)); have hbl := (Array.getElem?_eq_some_iff.1 hbk).1); clear hq hb11; clear hS11))
    all_goals
      first
      | (have hgd := HP; clear hgd; (try (go_wp2_with fail)); go_meet; case rel => exact ⟨_, _, _, _, _, _, _, rfl, rfl, ⟨HP.out.1, HP.out.2⟩⟩)
      | ((try (go_wp2_with fail)); go_meet; case rel => exact ⟨w13.heap.size, _, _, _, _, _, _, rfl, rfl, ⟨WBx.new HJ.out.1.rd rfl rfl HTT.out.2, below_alloc (HSB.out HS13A.out) _⟩⟩)
  case rest =>
    obtain ⟨gp, Ap, cp, Dp, dp, Ep, epp, rfl, rfl, HP⟩ := hcut
    rename World => WP
    replace HNA := Aside0.mk (HNA.out.step HP.out.2)
    replace HNB := Aside0.mk (HNB.out.step HP.out.2)
    have HBW2 := Aside0.mk (below_then HBW.out HBW.out.size HP.out.2)
    replace HTW := Aside0.mk (HT.out.step HBW2.out)
    have Hp := Aside0.mk HP.out.1
    clear HP HBW
    go_upto_region 6 with fail
    go_cut [14, 15] (fun s17 s18 wx => ∃ (g : Nat) (A : Option Addr) (c : Nat) (D : Option Addr) (d : Nat) (E : Option Addr) (e : Nat), s17 = .pointer (some ⟨g, 0, none⟩) ∧ s18 = .int .i64 ep ∧ Aside0 (WBx wx g A c UP.length UP D d JP.length JP E e JP.length SP ∧ Below WP.heap.size WP wx))
    case first =>
      have HST := Aside0.mk (show ∀ {W W1 : World}, (W.cell? ⟨ga, 0, none⟩ = some (.slice Aa sx'.length ca) ∧ W.cell? ⟨ga, 1, none⟩ = some (.slice Da Rx.length da) ∧ W.cell? ⟨ga, 2, none⟩ = some (.slice Ea Rx.length ea) ∧ W.cell? ⟨gb, 0, none⟩ = some (.slice Ab sy'.length cb) ∧ W.cell? ⟨gb, 1, none⟩ = some (.slice Db Ry.length db) ∧ W.cell? ⟨gb, 2, none⟩ = some (.slice Eb Ry.length eb) ∧ Below WP.heap.size WP W) → Below W.heap.size W W1 → (W1.cell? ⟨ga, 0, none⟩ = some (.slice Aa sx'.length ca) ∧ W1.cell? ⟨ga, 1, none⟩ = some (.slice Da Rx.length da) ∧ W1.cell? ⟨ga, 2, none⟩ = some (.slice Ea Rx.length ea) ∧ W1.cell? ⟨gb, 0, none⟩ = some (.slice Ab sy'.length cb) ∧ W1.cell? ⟨gb, 1, none⟩ = some (.slice Db Ry.length db) ∧ W1.cell? ⟨gb, 2, none⟩ = some (.slice Eb Ry.length eb) ∧ Below WP.heap.size WP W1) from fun {W W1} h hb => ⟨(hb.cell (World.block_lt_of_cell? W _ h.1)).trans h.1, (hb.cell (World.block_lt_of_cell? W _ h.2.1)).trans h.2.1, (hb.cell (World.block_lt_of_cell? W _ h.2.2.1)).trans h.2.2.1, (hb.cell (World.block_lt_of_cell? W _ h.2.2.2.1)).trans h.2.2.2.1, (hb.cell (World.block_lt_of_cell? W _ h.2.2.2.2.1)).trans h.2.2.2.2.1, (hb.cell (World.block_lt_of_cell? W _ h.2.2.2.2.2.1)).trans h.2.2.2.2.2.1, below_then h.2.2.2.2.2.2 h.2.2.2.2.2.2.size hb⟩)
      have HSE := Aside0.mk (show ∀ {W : World} {g : Nat} (i : Nat) (u : Value), (W.cell? ⟨ga, 0, none⟩ = some (.slice Aa sx'.length ca) ∧ W.cell? ⟨ga, 1, none⟩ = some (.slice Da Rx.length da) ∧ W.cell? ⟨ga, 2, none⟩ = some (.slice Ea Rx.length ea) ∧ W.cell? ⟨gb, 0, none⟩ = some (.slice Ab sy'.length cb) ∧ W.cell? ⟨gb, 1, none⟩ = some (.slice Db Ry.length db) ∧ W.cell? ⟨gb, 2, none⟩ = some (.slice Eb Ry.length eb) ∧ Below WP.heap.size WP W) → WP.heap.size ≤ g → ((W.setCell ⟨g, i, none⟩ u).cell? ⟨ga, 0, none⟩ = some (.slice Aa sx'.length ca) ∧ (W.setCell ⟨g, i, none⟩ u).cell? ⟨ga, 1, none⟩ = some (.slice Da Rx.length da) ∧ (W.setCell ⟨g, i, none⟩ u).cell? ⟨ga, 2, none⟩ = some (.slice Ea Rx.length ea) ∧ (W.setCell ⟨g, i, none⟩ u).cell? ⟨gb, 0, none⟩ = some (.slice Ab sy'.length cb) ∧ (W.setCell ⟨g, i, none⟩ u).cell? ⟨gb, 1, none⟩ = some (.slice Db Ry.length db) ∧ (W.setCell ⟨g, i, none⟩ u).cell? ⟨gb, 2, none⟩ = some (.slice Eb Ry.length eb) ∧ Below WP.heap.size WP (W.setCell ⟨g, i, none⟩ u)) from fun {W g} i u h hg => ⟨cell_set_ne h.1 (by have hl := (Array.getElem?_eq_some_iff.1 HNA.out.blk).1; show (ga : Nat) ≠ g; omega) i u, cell_set_ne h.2.1 (by have hl := (Array.getElem?_eq_some_iff.1 HNA.out.blk).1; show (ga : Nat) ≠ g; omega) i u, cell_set_ne h.2.2.1 (by have hl := (Array.getElem?_eq_some_iff.1 HNA.out.blk).1; show (ga : Nat) ≠ g; omega) i u, cell_set_ne h.2.2.2.1 (by have hl := (Array.getElem?_eq_some_iff.1 HNB.out.blk).1; show (gb : Nat) ≠ g; omega) i u, cell_set_ne h.2.2.2.2.1 (by have hl := (Array.getElem?_eq_some_iff.1 HNB.out.blk).1; show (gb : Nat) ≠ g; omega) i u, cell_set_ne h.2.2.2.2.2.1 (by have hl := (Array.getElem?_eq_some_iff.1 HNB.out.blk).1; show (gb : Nat) ≠ g; omega) i u, h.2.2.2.2.2.2.setCell (p := ⟨g, i, none⟩) hg u⟩)
      have HSB := Aside0.mk (show ∀ {W : World}, (W.cell? ⟨ga, 0, none⟩ = some (.slice Aa sx'.length ca) ∧ W.cell? ⟨ga, 1, none⟩ = some (.slice Da Rx.length da) ∧ W.cell? ⟨ga, 2, none⟩ = some (.slice Ea Rx.length ea) ∧ W.cell? ⟨gb, 0, none⟩ = some (.slice Ab sy'.length cb) ∧ W.cell? ⟨gb, 1, none⟩ = some (.slice Db Ry.length db) ∧ W.cell? ⟨gb, 2, none⟩ = some (.slice Eb Ry.length eb) ∧ Below WP.heap.size WP W) → Below WP.heap.size WP W from fun {W} h => h.2.2.2.2.2.2)
      have HS0A := Aside0.mk (show (WP.cell? ⟨ga, 0, none⟩ = some (.slice Aa sx'.length ca) ∧ WP.cell? ⟨ga, 1, none⟩ = some (.slice Da Rx.length da) ∧ WP.cell? ⟨ga, 2, none⟩ = some (.slice Ea Rx.length ea) ∧ WP.cell? ⟨gb, 0, none⟩ = some (.slice Ab sy'.length cb) ∧ WP.cell? ⟨gb, 1, none⟩ = some (.slice Db Ry.length db) ∧ WP.cell? ⟨gb, 2, none⟩ = some (.slice Eb Ry.length eb) ∧ Below WP.heap.size WP WP) from ⟨(blk3_c HNA.out.blk).1, (blk3_c HNA.out.blk).2.1, (blk3_c HNA.out.blk).2.2, (blk3_c HNB.out.blk).1, (blk3_c HNB.out.blk).2.1, (blk3_c HNB.out.blk).2.2, Below.refl _ _⟩)
      have HSDA := Aside0.mk (HST.out HS0A.out (below_drew (Below.refl _ _)))
      have qq0 := HS0A.out.1
      have qq1 := HS0A.out.2.1
      have qq2 := HS0A.out.2.2.1
      have qq3 := HS0A.out.2.2.2.1
      have qq4 := HS0A.out.2.2.2.2.1
      have qq5 := HS0A.out.2.2.2.2.2.1
      go_region_held3 (fun W => W.cell? ⟨ga, 0, none⟩ = some (.slice Aa sx'.length ca) ∧ W.cell? ⟨ga, 1, none⟩ = some (.slice Da Rx.length da) ∧ W.cell? ⟨ga, 2, none⟩ = some (.slice Ea Rx.length ea) ∧ W.cell? ⟨gb, 0, none⟩ = some (.slice Ab sy'.length cb) ∧ W.cell? ⟨gb, 1, none⟩ = some (.slice Db Ry.length db) ∧ W.cell? ⟨gb, 2, none⟩ = some (.slice Eb Ry.length eb) ∧ Below WP.heap.size WP W)
        (first | with_reducible exact HS23A.out | with_reducible exact HS22A.out | with_reducible exact HS21A.out | with_reducible exact HSDA.out | with_reducible exact HS0A.out | with_reducible exact HST.out HS23A.out (below_alloc (Below.refl _ _) _) | with_reducible exact HST.out HS22A.out (below_alloc (Below.refl _ _) _) | with_reducible exact HST.out HS21A.out (below_alloc (Below.refl _ _) _) | with_reducible exact HST.out (by assumption) (below_alloc (Below.refl _ _) _) | with_reducible exact HST.out (by assumption) (below_drew (Below.refl _ _)) | with_reducible exact HSE.out _ _ (HSE.out _ _ (HSE.out _ _ HS23A.out (by first | assumption | exact Nat.le_refl _)) (by first | assumption | exact Nat.le_refl _)) (by first | assumption | exact Nat.le_refl _))
        (first
          | (have hgd := HS22A; clear hgd; go_at_call 17; refine (pplus_is (HQ1.out.step (by first | exact Below.refl _ _ | exact below_drew (Below.refl _ _) | exact below_alloc (Below.refl _ _) _)) rfl rfl HFx.out.2.1 (HQ2.out.step (by first | exact Below.refl _ _ | exact below_drew (Below.refl _ _) | exact below_alloc (Below.refl _ _) _)) rfl rfl HFy.out.2.1 HFx.out.2.2.rt HFx.out.1 HFy.out.2.2.rt HFy.out.1 (by omega) (by omega) rows (HTW.out.step (HSB.out (by assumption))) HPP.out.1 rfl rfl HPP.out.2).mono ?_; rintro e w23 ⟨A3, c3, D3, d3, E3, e3, rfl, hm3, hb23⟩; have hS23 := HST.out (by assumption) hb23; have HS23A := Aside0.mk hS23; have HJ := Aside0.mk (And.intro hm3 hb23); have hg23 : WP.heap.size ≤ w23.heap.size := (HSB.out hS23).size; (first | (have hbk := (hb23.block _ (Array.getElem?_eq_some_iff.1 hbk).1).trans hbk) | (have hbk := (hb23.block w22.heap.size (by simp)).trans (heap_alloc_new w22 (.cells #[.slice none 0 0, .slice none 0 0, .slice none 0 0] 37)); have hbl : w22.heap.size < (w22.alloc (.cells #[.slice none 0 0, .slice none 0 0, .slice none 0 0] 37)).heap.size := by simp) | skip); try (obtain ⟨⟨z0, z1⟩, ⟨z2, z3⟩, ⟨z4, z5⟩⟩ := blk3_put hbk (.slice A3 UP.length c3) (.slice D3 JP.length d3) (.slice E3 JP.length e3); have HP := Aside0.mk (And.intro (box_put3 (n := UP.length) (n' := JP.length) (m := JP.length) hbk hm3 (by first | exact hbl | (simp; done)) rfl rfl HPP.out.2) (HSB.out (HSE.out 2 (.slice E3 JP.length e3) (HSE.out 1 (.slice D3 JP.length d3) (HSE.out 0 (.slice A3 UP.length c3) hS23 (at_leW hbk (by first | exact Nat.le_refl _ | assumption))) (at_leW hbk (by first | exact Nat.le_refl _ | assumption))) (at_leW hbk (by first | exact Nat.le_refl _ | assumption))))); clear hbk); clear hm3 hb23; clear hS23)
          | (have hgd := HS21A; clear hgd; go_at_call 16; refine (number_dw (HNB.out.rd.step (HSB.out (by assumption))) rfl rfl (Kd.C_below HNB.out.d (HSB.out (by assumption))) (by omega) HFy.out.2.1).mono ?_; rintro e w22 ⟨En, en, rfl, hq, hb22⟩; have hS22 := HST.out (by assumption) hb22; have HS22A := Aside0.mk hS22; have hx22 : Below w21.heap.size w21 w22 := (by first | exact hb22 | exact below_then (below_alloc (Below.refl _ _) _) (by simp) hb22); have HQ1 := Aside0.mk (HQ1.out.step hx22); have HQ2 := Aside0.mk hq; have hg22 : WP.heap.size ≤ w22.heap.size := (HSB.out hS22).size; (first | (have hbk := (hb22.block _ (Array.getElem?_eq_some_iff.1 hbk).1).trans hbk) | (have hbk := (hb22.block w21.heap.size (by simp)).trans (heap_alloc_new w21 (.cells #[.slice none 0 0, .slice none 0 0, .slice none 0 0] 37)); have hbl : w21.heap.size < (w21.alloc (.cells #[.slice none 0 0, .slice none 0 0, .slice none 0 0] 37)).heap.size := by simp) | skip); try (have hbl := (Array.getElem?_eq_some_iff.1 hbk).1); clear hq hx22 hb22; clear hS22)
          | (go_at_call 16; refine (number_dw (HNA.out.rd.step (HSB.out (by assumption))) rfl rfl (Kd.C_below HNA.out.d (HSB.out (by assumption))) (by omega) HFx.out.2.1).mono ?_; rintro e w21 ⟨Em, em, rfl, hq, hb21⟩; have hS21 := HST.out (by assumption) hb21; have HS21A := Aside0.mk hS21; have HQ1 := Aside0.mk hq; have hg21 : WP.heap.size ≤ w21.heap.size := (HSB.out hS21).size; try (have hbk := (hb21.block WP.heap.size (by simp)).trans (heap_alloc_new WP.drew (.cells #[.slice none 0 0, .slice none 0 0, .slice none 0 0] 37)); have hbl := (Array.getElem?_eq_some_iff.1 hbk).1); clear hq hb21; clear hS21))
      all_goals
        first
        | (have hgd := HP; clear hgd; (try (go_wp2_with fail)); go_meet; case rel => exact ⟨_, _, _, _, _, _, _, rfl, rfl, ⟨HP.out.1, HP.out.2⟩⟩)
        | ((try (go_wp2_with fail)); go_meet; case rel => exact ⟨w23.heap.size, _, _, _, _, _, _, rfl, rfl, ⟨WBx.new HJ.out.1.rd rfl rfl HPP.out.2, below_alloc (HSB.out HS23A.out) _⟩⟩)
    case rest =>
      obtain ⟨gq, Aq, cq, Dq, dq, Eq, eqq, rfl, rfl, HQ⟩ := hcut
      rename World => WQ
      replace HNA := Aside0.mk (HNA.out.step HQ.out.2)
      replace HNB := Aside0.mk (HNB.out.step HQ.out.2)
      have HBW := Aside0.mk (below_then HBW2.out HBW2.out.size HQ.out.2)
      replace Hp := Aside0.mk (Hp.out.step HQ.out.2)
      have Hq := Aside0.mk HQ.out.1
      clear HQ HBW2 HTW
      obtain ⟨qa0, qa1, qa2⟩ := blk3_c HNA.out.blk
      obtain ⟨qb0, qb1, qb2⟩ := blk3_c HNB.out.blk
      go_upto_region 8 with (go_at_call 18; refine (dtimes_is HNA.out.rd HNA.out.d rfl rfl HFx.out.2.1 HFx.out.2.2.rt.r HFx.out.1 HNB.out.rd HNB.out.d rfl rfl HFy.out.2.1 HFy.out.2.2.rt.r HFy.out.1 (by omega) (by omega) (by omega) (by omega) rows false (show joinedTo (fDoc false) _ _ _ = _ from HTT.out.1) HJR.out rfl rfl).mono ?_; rintro z w37 ⟨Ar, cr, Dr, dr, Er, er, rfl, hM, hD, hb⟩; have HVr := Aside0.mk (And.intro hM (And.intro hD hb)); clear hM hD hb)
      have Hr := Aside0.mk (DBx.new (n := UT.length) (n' := JT.length) (c4 := er) (D := dW ST) HVr.out.1 HVr.out.2.1)
      replace HNA := Aside0.mk (HNA.out.step (below_alloc HVr.out.2.2 (.cells #[.slice Ar UT.length cr, .slice Dr JT.length dr, .slice Er JT.length er] 34)))
      replace HNB := Aside0.mk (HNB.out.step (below_alloc HVr.out.2.2 (.cells #[.slice Ar UT.length cr, .slice Dr JT.length dr, .slice Er JT.length er] 34)))
      replace HBW := Aside0.mk (below_then HBW.out HBW.out.size (below_alloc HVr.out.2.2 (.cells #[.slice Ar UT.length cr, .slice Dr JT.length dr, .slice Er JT.length er] 34)))
      replace Hp := Aside0.mk (Hp.out.step (below_alloc HVr.out.2.2 (.cells #[.slice Ar UT.length cr, .slice Dr JT.length dr, .slice Er JT.length er] 34)))
      replace Hq := Aside0.mk (Hq.out.step (below_alloc HVr.out.2.2 (.cells #[.slice Ar UT.length cr, .slice Dr JT.length dr, .slice Er JT.length er] 34)))
      clear HVr qa0 qa1 qa2 qb0 qb1 qb2
      generalize w37.alloc (.cells #[.slice Ar UT.length cr, .slice Dr JT.length dr, .slice Er JT.length er] 34) = Wr at HNA HNB HBW Hp Hq Hr ⊢
      generalize w37.heap.size = gr at Hr ⊢
      obtain ⟨qa0, qa1, qa2⟩ := blk3_c HNA.out.blk
      obtain ⟨qb0, qb1, qb2⟩ := blk3_c HNB.out.blk
      go_upto_region 9 with (go_at_call 18; refine (dtimes_is HNA.out.rd HNA.out.d rfl rfl HFx.out.2.1 HFx.out.2.2.rt.r HFx.out.1 HNB.out.rd HNB.out.d rfl rfl HFy.out.2.1 HFy.out.2.2.rt.r HFy.out.1 (by omega) (by omega) (by omega) (by omega) rows true (show joinedTo (fDoc true) _ _ _ = _ from HPP.out.1) HJR.out rfl rfl).mono ?_; rintro z w38 ⟨As, cs, Ds, ds, Es, es, rfl, hM, hD, hb⟩; have HVs := Aside0.mk (And.intro hM (And.intro hD hb)); clear hM hD hb)
      have Hs := Aside0.mk (DBx.new (n := UP.length) (n' := JP.length) (c4 := es) (D := dW SP) HVs.out.1 HVs.out.2.1)
      replace HNA := Aside0.mk (HNA.out.step (below_alloc HVs.out.2.2 (.cells #[.slice As UP.length cs, .slice Ds JP.length ds, .slice Es JP.length es] 34)))
      replace HNB := Aside0.mk (HNB.out.step (below_alloc HVs.out.2.2 (.cells #[.slice As UP.length cs, .slice Ds JP.length ds, .slice Es JP.length es] 34)))
      replace HBW := Aside0.mk (below_then HBW.out HBW.out.size (below_alloc HVs.out.2.2 (.cells #[.slice As UP.length cs, .slice Ds JP.length ds, .slice Es JP.length es] 34)))
      replace Hp := Aside0.mk (Hp.out.step (below_alloc HVs.out.2.2 (.cells #[.slice As UP.length cs, .slice Ds JP.length ds, .slice Es JP.length es] 34)))
      replace Hq := Aside0.mk (Hq.out.step (below_alloc HVs.out.2.2 (.cells #[.slice As UP.length cs, .slice Ds JP.length ds, .slice Es JP.length es] 34)))
      replace Hr := Aside0.mk (Hr.out.step (below_alloc HVs.out.2.2 (.cells #[.slice As UP.length cs, .slice Ds JP.length ds, .slice Es JP.length es] 34)))
      clear HVs qa0 qa1 qa2 qb0 qb1 qb2
      generalize w38.alloc (.cells #[.slice As UP.length cs, .slice Ds JP.length ds, .slice Es JP.length es] 34) = Ws at HNA HNB HBW Hp Hq Hr Hs ⊢
      generalize w38.heap.size = gs at Hs ⊢
      have hee : (et == et) = true := by simp
      have hpp : (ep == ep) = true := by simp
      obtain ⟨yp0, yp1, yp2⟩ := blk3_c Hp.out.blk
      obtain ⟨yq0, yq1, yq2⟩ := blk3_c Hq.out.blk
      obtain ⟨yr0, yr1, yr2⟩ := blk3_c Hr.out.blk
      obtain ⟨ys0, ys1, ys2⟩ := blk3_c Hs.out.blk
      go_wp2_with (first
        | (have hgd := HB41; clear hgd; go_at_call 19; refine (same_yes (Hq.out.rd.step HB41.out) (Hs.out.rd.step HB41.out) (Kd.C_below Hs.out.d HB41.out) rfl rfl HPP.out.2 (by omega) HmP.out (by omega)).mono ?_; rintro z w42 ⟨rfl, hb⟩; have HB42 := Aside0.mk (below_then HB41.out HB41.out.size hb); clear hb)
        | (go_at_call 19; refine (same_yes Hp.out.rd Hr.out.rd Hr.out.d rfl rfl HTT.out.2 (by omega) HmT.out (by omega)).mono ?_; rintro z w41 ⟨rfl, hb⟩; have HB41 := Aside0.mk hb; replace yq0 := cell_below hb yq0; replace yq1 := cell_below hb yq1; replace yq2 := cell_below hb yq2; replace ys0 := cell_below hb ys0; replace ys1 := cell_below hb ys1; replace ys2 := cell_below hb ys2; clear hb))
      go_ret
      exact ⟨rfl, below_then HBW.out HBW.out.size HB42.out⟩
end Go.Proofs.YtlmkgghpaaadhaaGreatDoor.G

namespace Go.Proofs.YtlmkgghpaaadhaaGreatDoor.weighTimes
open Go.ChangeShapes Go.WideShapes Go.ChangeAt Go.RowKit Go.Proofs.YtlmkgghpaaadhaaGreatDoorW.PrintWords Go.Proofs.YtlmkgghpaaadhaaGreatDoorW.PrintLast Go.Proofs.YtlmkgghpaaadhaaGreatDoorW.PrintMore Go.Proofs.YtlmkgghpaaadhaaGreatDoor.PRefs
set_option linter.unusedVariables false
theorem own : ownKnob Tryz.prog.godebug = none := by kernel_rfl
theorem laidOut : laidOutB Tryz.prog = true := by kernel_rfl
set_option maxRecDepth 100000 in
theorem lifted (os : Os) (started : os.Started) (H : Type) (enc : TypeId × Value → H) :
    ReturnsInHanded {} Tryz.checked os 3 .any (fun w args => (Rows.weighTimesSpec.pre enc Tryz.prog Tryz.f3 [] false w args ∧ laidMetH Tryz.prog G.laidList w) ∧ sizedMet enc Tryz.prog Tryz.f3 (OpenSpec.ofChange Rows.weighTimesSpec) false w args)
      (Rows.weighTimesSpec.post enc Tryz.prog Tryz.f3 false true false false) := by
  refine returnsInHanded_of_change_and (C := Tryz.checked) (X := fun w _ => laidMetH Tryz.prog G.laidList w) (fun _ _ _ hh h => h.of_heap hh) own started (by kernel_rfl) Tryz.func3
    (ChangeSpec.witness_shaped (enc := enc) (C := Tryz.checked) (os := os) (X := fun w _ => laidMetH Tryz.prog G.laidList w) false (World.doorLaid Tryz.prog 400 os) #[.agg #[.slice none 0 0, .slice none 0 0, .slice none 0 0, .slice none 0 0], .agg #[.slice none 0 0, .slice none 0 0, .slice none 0 0, .slice none 0 0], .int .i64 0] 8 rfl (World.shaped_of_RefB (by kernel_rfl) (by kernel_rfl)) (by kernel_rfl) (by kernel_rfl) (by kernel_rfl) (G.door_met os _)) ?_
  intro W base args ds gs before hval0 hW _ _ hL _
  have htab := G.tab_of hL
  have hval : ∀ (j : Nat) t v, Tryz.f3.params[j]? = some t → args[j]? = some v → Value.okWide Tryz.prog W .any base t v := hval0
  have hW' := hW
  obtain ⟨p, q, hA0, hV, rfl, hfz, hnd⟩ := hW
  have hA : DataW.TrodAll enc Tryz.prog W 0 (fun _ => true) true Tryz.f3.params.toList args.toList ds p := hA0
  rw [Tryz.params3] at hA hval
  obtain ⟨v0, vs0, d0, ds0, p0, q0, hargs, rfl, rfl, h0, r0⟩ := trodAll_cons hA
  obtain ⟨v1, vs1, d1, ds1, p1, q1, rfl, rfl, rfl, h1, r1⟩ := trodAll_cons r0
  obtain ⟨v2, vs2, d2, ds2, p2, q2, rfl, rfl, rfl, h2, r2⟩ := trodAll_cons r1
  obtain ⟨rfl, rfl, rfl⟩ := trodAll_nil r2
  obtain rfl : args = #[v0, v1, v2] := by cases args; simp_all
  obtain ⟨rfl, rfl⟩ := trodVars_none hV
  obtain ⟨cs0, rfl, hcs0⟩ := okWide_struct Tryz.underlying26 (hval 0 26 v0 rfl rfl)
  obtain ⟨cs1, rfl, hcs1⟩ := okWide_struct Tryz.underlying26 (hval 1 26 v1 rfl rfl)
  have k0 := h0
  have lt0 : ∀ x ∈ p0, x.block < W.heap.size := by obtain ⟨m, hm⟩ := k0; exact DataW.trod_lt m _ _ _ hm
  have k1 := h1
  have lt1 : ∀ x ∈ p1, x.block < W.heap.size := by obtain ⟨m, hm⟩ := k1; exact DataW.trod_lt m _ _ _ hm
  obtain ⟨a0, cap0, z0, ar0, capr0, zr0, ab0, capb0, zb0, ac0, nc0, capc0, rfl, c0, b0, m0⟩ := (by obtain ⟨m, hm⟩ := h0; exact G.in_part4 hm : ∃ A c sc A' c' L Aa ca xA Ab nb cb, cs0 = #[.slice A sc.length c, .slice A' L.length c', .slice Aa xA.length ca, .slice Ab nb cb] ∧ G.RelRd W A c sc A' c' L ∧ Kd.C G.KI W Aa xA.length xA ∧ nb ≤ 9223372036854775807)
  obtain ⟨a1, cap1, z1, ar1, capr1, zr1, ab1, capb1, zb1, ac1, nc1, capc1, rfl, c1, b1, m1⟩ := (by obtain ⟨m, hm⟩ := h1; exact G.in_part4 hm : ∃ A c sc A' c' L Aa ca xA Ab nb cb, cs1 = #[.slice A sc.length c, .slice A' L.length c', .slice Aa xA.length ca, .slice Ab nb cb] ∧ G.RelRd W A c sc A' c' L ∧ Kd.C G.KI W Aa xA.length xA ∧ nb ≤ 9223372036854775807)
  obtain ⟨a2, rfl, rfl, rfl, w2⟩ := open_int Tryz.underlying3 (hval 2 3 v2 rfl rfl) h2
  clear hA0 hval0
  refine (G.weightimes_walk a0 cap0 z0 ar0 capr0 zr0 ab0 capb0 zb0 ac0 nc0 capc0 a1 cap1 z1 ar1 capr1 zr1 ab1 capb1 zb1 ac1 nc1 capc1 a2 W c0 b0 m0 c1 b1 m1 htab).mono fun e W' ⟨he, bel⟩ => ?_
  subst he
  exact ⟨_, rfl, _, _, _, [], _, [], hW', trodAll_mk1 (shut_bool Tryz.underlying4 _), (trodAll_cons_mk (Below.trod laidOut (by kernel_rfl) (of_decide_eq_true (by kernel_rfl)) k0 bel lt0) (trodAll_cons_mk (Below.trod laidOut (by kernel_rfl) (of_decide_eq_true (by kernel_rfl)) k1 bel lt1) (trodAll_cons_mk (shut_int Tryz.underlying3 w2) trodAll_mk0))), rfl, bel.frame _, fun h => by cases h⟩
theorem over : Rows.weighTimesRow.holds Tryz.pinned (OpenSpec.ofChange Rows.weighTimesSpec) :=
  OpenClaim.holds_of_wide 3 Tryz.f3 rfl rfl rfl rfl rfl rfl rfl ⟨rfl, rfl, rfl, rfl, rfl⟩ rfl rfl rfl rfl rfl (by kernel_rfl) Tryz.func3 (by kernel_rfl)
    (of_decide_eq_true (by kernel_rfl)) (by unfold Func.isWrapper; first | (rw [if_pos (by decide +kernel)]; kernel_rfl) | (rw [if_neg (by decide +kernel)]; exact ⟨rfl, rfl⟩))
    (fun os started H enc _ => lifted os started H enc)
theorem proved : Rows.WeighTimesCardSaid :=
  Claim7.holds_tied_plain_at .later [] [.data, .data, .data] true Rows.weighTimesCard.stood.harness true
    over (fun _ h => by cases h) (by kernel_rfl) (fun _ h => by cases h) weighTimes_row_tie rfl ⟨rfl, rfl⟩ (by kernel_rfl) rfl
    (fun f fn hf hfn => by
      obtain rfl : f = 3 := Option.some.inj ((show Tryz.prog.funcNamed "arborist/arboristlaw04.WeighTimes" = some 3 by kernel_rfl).symm.trans hf) |>.symm
      obtain rfl : fn = Tryz.f3 := (Option.some.inj (Tryz.func3.symm.trans hfn)).symm
      exact ⟨by kernel_rfl, fun j t ht => by
        rw [Tryz.params3] at ht
        have hm : t ∈ [26, 26, 3] := by simpa using Array.mem_of_getElem? ht
        have hall : ([26, 26, 3].all fun u => !Tryz.prog.wantsStandIn u) = true := by kernel_rfl
        exact (show Tryz.prog.wantsStandIn t = false by simpa using List.all_eq_true.1 hall t hm)⟩)
    (by kernel_rfl)
#print axioms proved
end Go.Proofs.YtlmkgghpaaadhaaGreatDoor.weighTimes
