/- Proved: for every input the law arboristlaw04.WeighParts returns true and its arguments read as they did; what the program's tables hold at the start is tied to the program's text. No condition. -/
import Derived.Test.YtlmkgghpaaadhaaGreatDoorRows
import Derived.Test.YtlmkgghpaaadhaaGreatDoorCards
import Derived.Test.YtlmkgghpaaadhaaGreatDoorTie
import Derived.Test.YtlmkgghpaaadhaaGreatDoorNB
import Derived.Deep.Matrix
import Derived.ProofKit
import Derived.OpenShut
import Derived.WalkKit
import Derived.ShutString
import Derived.ChangeOld
import Derived.Below
import Derived.SevenTiedAt
import Derived.Stop.Joined
import Derived.Deep.DeepCutAuto
set_option linter.unusedVariables false
set_option linter.unusedSimpArgs false
namespace Go.Proofs.YtlmkgghpaaadhaaGreatDoor.G
open Go.RowKit Go.Proofs.YtlmkgghpaaadhaaGreatDoorW.PrintWords Go.Proofs.YtlmkgghpaaadhaaGreatDoorW.PrintLast Go.Proofs.YtlmkgghpaaadhaaGreatDoorW.PrintMore Go.Proofs.YtlmkgghpaaadhaaGreatDoor.PRefs
attribute [local go_sem] min2_mn min_two

theorem ws0 {W : World} {A : Option Addr} {c : Nat} {A' : Option Addr} {c' : Nat} {Aw : Option Addr} {cw : Nat} {sc : List Int} {L : List (List Int)} {ws : List Int} (h : WRd W A c sc A' c' L Aw cw ws) (h1 : L.length = 0) (h2 : ws.length = 0) : WRd W A c sc A' c' [] Aw cw [] := by
  obtain rfl := List.length_eq_zero_iff.1 h1
  obtain rfl := List.length_eq_zero_iff.1 h2
  exact h
set_option maxHeartbeats 8000000 in
set_option maxRecDepth 100000 in
theorem weighparts_nn (A0 : Option Addr) (c0 : Nat) (sx : List Int) (B0 : Option Addr) (d0 : Nat) (rx : List (List Int)) (E0 : Option Addr) (e0 : Nat) (ax : List Int) (F0 : Option Addr) (n0 f0 : Nat) (A1 : Option Addr) (c1 : Nat) (sy : List Int) (B1 : Option Addr) (d1 : Nat) (ry : List (List Int)) (E1 : Option Addr) (e1 : Nat) (ay : List Int) (F1 : Option Addr) (n1 f1 : Nat) (w : World) (hr0 : RelRd w A0 c0 sx B0 d0 rx) (ha0 : Kd.C KI w E0 ax.length ax) (hn0 : n0 ≤ 9223372036854775807) (hr1 : RelRd w A1 c1 sy B1 d1 ry) (ha1 : Kd.C KI w E1 ay.length ay) (hn1 : n1 ≤ 9223372036854775807) (htab : Tab w) (hx0 : ∀ s R, smallS3 sx = s → smallRows3 s.length rx = R → R ≠ []) (hy0 : ∀ s R, smallS3 sy = s → smallRows3 s.length ry = R → R ≠ []) :
    Calls Tryz.prog 6 #[.agg #[.slice A0 sx.length c0, .slice B0 rx.length d0, .slice E0 ax.length e0, .slice F0 n0 f0], .agg #[.slice A1 sy.length c1, .slice B1 ry.length d1, .slice E1 ay.length e1, .slice F1 n1 f1]] w fun e w' => e = .returned (.bool true) ∧ Below w.heap.size w w' := by
  have HT := Aside0.mk htab
  clear htab
  obtain ⟨sx', hs⟩ : ∃ s, smallS3 sx = s := ⟨_, rfl⟩
  obtain ⟨Rx, hR⟩ : ∃ R, smallRows3 sx'.length rx = R := ⟨_, rfl⟩
  obtain ⟨wx, hw⟩ : ∃ ws, (List.range Rx.length).map (refV 999 ax) = ws := ⟨_, rfl⟩
  have HFx := Aside0.mk (few4_of (by decide) (by decide) hs hR hw)
  have HEx := Aside0.mk (And.intro hs (And.intro hR hw))
  have hRlx : Rx.length ≤ 12 := HFx.out.2.l
  clear hs hR hw
  obtain ⟨sy', hs⟩ : ∃ s, smallS3 sy = s := ⟨_, rfl⟩
  obtain ⟨Ry, hR⟩ : ∃ R, smallRows3 sy'.length ry = R := ⟨_, rfl⟩
  obtain ⟨wy, hw⟩ : ∃ ws, (List.range Ry.length).map (refV 999 ay) = ws := ⟨_, rfl⟩
  have HFy := Aside0.mk (few4_of (by decide) (by decide) hs hR hw)
  have HEy := Aside0.mk (And.intro hs (And.intro hR hw))
  have hRly : Ry.length ≤ 12 := HFy.out.2.l
  clear hs hR hw
  have hNx : Rx ≠ [] := hx0 _ _ HEx.out.1 HEx.out.2.1
  have HNx := Aside0.mk hNx
  have HNwx := Aside0.mk (show wx ≠ [] from fun e => hNx (List.length_eq_zero_iff.1 (by rw [← HFx.out.1.l, e]; rfl)))
  clear hx0 hNx
  have hNy : Ry ≠ [] := hy0 _ _ HEy.out.1 HEy.out.2.1
  have HNy := Aside0.mk hNy
  have HNwy := Aside0.mk (show wy ≠ [] from fun e => hNy (List.length_eq_zero_iff.1 (by rw [← HFy.out.1.l, e]; rfl)))
  clear hy0 hNy
  have HG := Aside0.mk (shift_few HFy.out.1)
  have HGm := Aside0.mk (shift_rt HFy.out.2)
  have HD := Aside0.mk (show ∀ v ∈ sx', v ∉ sy'.map (· + 5) from by rw [← HEx.out.1, ← HEy.out.1]; exact shift_apart)
  have HPS := Aside0.mk (show ∀ v ∈ sy', 0 ≤ v ∧ v < 5 from by rw [← HEy.out.1]; exact smallS3_pos sy)
  have hsl : sy'.length ≤ 3 := HFy.out.2.s
  obtain ⟨P, hP1, hP2, hP3, hP4, hP5, hP6, hP7, hP8⟩ := parts_times HFx.out.1 HG.out HD.out
  obtain ⟨X, hX⟩ : ∃ X, wx.sum = X := ⟨_, rfl⟩
  obtain ⟨Y, hY⟩ : ∃ Y, wy.sum = Y := ⟨_, rfl⟩
  have hx1 := few_sum HFx.out.1
  have hy1 := few_sum HG.out
  have hxy := few_prod HFx.out.1 HG.out
  simp only [hX, hY] at hx1 hy1 hxy hP6
  have HXY := Aside0.mk (And.intro hX (And.intro hY (And.intro hx1 (And.intro hy1 hxy))))
  have hsc : P.sc.length ≤ 1000000 := by rw [hP2]; have h := merge_len true true true sx' (sy'.map (· + 5)); have h2 := HFx.out.2.s; rw [List.length_map] at h; show (merge true true true sx' (sy'.map (· + 5))).length ≤ _; omega
  have hmul : P.L.length ≤ 1000000 := by rw [hP5]; have h := Nat.mul_le_mul HFx.out.2.l HFy.out.2.l; exact Nat.le_trans h (by decide)
  have hPn : P.L ≠ [] := fun e => by rw [e] at hP5; have h1 := List.length_pos_iff.2 HNx.out; have h2 := List.length_pos_iff.2 HNy.out; have h3 := Nat.mul_pos h1 h2; have hP5 : 0 = Rx.length * Ry.length := hP5; omega
  have HP := Aside0.mk (And.intro hP1 (And.intro hP3.1.1 (And.intro hsc (And.intro hP4 (And.intro hmul (And.intro hPn (And.intro (show tot P.ws ≤ 4611686018427387904 by omega) hP6)))))))
  clear hP1 hP2 hP3 hP4 hP5 hP6 hP7 hP8 hX hY hx1 hy1 hxy hsc hmul hPn
  obtain ⟨W0, hW0⟩ : ∃ W0, (w.alloc (.cells #[.slice A0 sx.length c0, .slice B0 rx.length d0, .slice E0 ax.length e0, .slice F0 n0 f0] 26)).alloc (.cells #[.slice A1 sy.length c1, .slice B1 ry.length d1, .slice E1 ay.length e1, .slice F1 n1 f1] 26) = W0 := ⟨_, rfl⟩
  have HB0 := Aside0.mk (show Below w.heap.size w W0 from by rw [← hW0]; exact below_alloc (below_alloc (Below.refl _ _) _) _)
  have Hx0 := Aside0.mk (show P4Bx W0 w.heap.size A0 c0 sx B0 d0 rx E0 e0 ax F0 n0 f0 from ⟨by rw [← hW0]; exact blk_two1 _ _ _, hr0.step HB0.out, Kd.C_below ha0 HB0.out⟩)
  have Hy0 := Aside0.mk (show P4Bx W0 (w.heap.size + 1) A1 c1 sy B1 d1 ry E1 e1 ay F1 n1 f1 from ⟨by rw [← hW0]; exact blk_two2 _ _ _, hr1.step HB0.out, Kd.C_below ha1 HB0.out⟩)
  clear hr0 ha0 hr1 ha1
  have yx0_0 : World.cell? _ ⟨w.heap.size, 0, none⟩ = some (.slice A0 sx.length c0) := (blk4_c Hx0.out.blk).1
  have yx1_0 : World.cell? _ ⟨w.heap.size, 1, none⟩ = some (.slice B0 rx.length d0) := (blk4_c Hx0.out.blk).2.1
  have yx2_0 : World.cell? _ ⟨w.heap.size, 2, none⟩ = some (.slice E0 ax.length e0) := (blk4_c Hx0.out.blk).2.2.1
  have yx3_0 : World.cell? _ ⟨w.heap.size, 3, none⟩ = some (.slice F0 n0 f0) := (blk4_c Hx0.out.blk).2.2.2
  have yy0_0 : World.cell? _ ⟨w.heap.size + 1, 0, none⟩ = some (.slice A1 sy.length c1) := (blk4_c Hy0.out.blk).1
  have yy1_0 : World.cell? _ ⟨w.heap.size + 1, 1, none⟩ = some (.slice B1 ry.length d1) := (blk4_c Hy0.out.blk).2.1
  have yy2_0 : World.cell? _ ⟨w.heap.size + 1, 2, none⟩ = some (.slice E1 ay.length e1) := (blk4_c Hy0.out.blk).2.2.1
  have yy3_0 : World.cell? _ ⟨w.heap.size + 1, 3, none⟩ = some (.slice F1 n1 f1) := (blk4_c Hy0.out.blk).2.2.2
  go_enter Tryz.func6, Tryz.ntmps6
  go_upto_region 2 with (go_at_call 12; refine (shown4_any _ (HT.out.step HB0.out)).mono ?_; rintro e w1 ⟨rfl, hb⟩; have HB1 := Aside0.mk (below_then HB0.out HB0.out.size hb); have Hx1 := Aside0.mk (Hx0.out.step hb); have Hy1 := Aside0.mk (Hy0.out.step hb); have yx0_1 : World.cell? _ ⟨w.heap.size, 0, none⟩ = some (.slice A0 sx.length c0) := (blk4_c Hx1.out.blk).1; have yx1_1 : World.cell? _ ⟨w.heap.size, 1, none⟩ = some (.slice B0 rx.length d0) := (blk4_c Hx1.out.blk).2.1; have yx2_1 : World.cell? _ ⟨w.heap.size, 2, none⟩ = some (.slice E0 ax.length e0) := (blk4_c Hx1.out.blk).2.2.1; have yx3_1 : World.cell? _ ⟨w.heap.size, 3, none⟩ = some (.slice F0 n0 f0) := (blk4_c Hx1.out.blk).2.2.2; have yy0_1 : World.cell? _ ⟨w.heap.size + 1, 0, none⟩ = some (.slice A1 sy.length c1) := (blk4_c Hy1.out.blk).1; have yy1_1 : World.cell? _ ⟨w.heap.size + 1, 1, none⟩ = some (.slice B1 ry.length d1) := (blk4_c Hy1.out.blk).2.1; have yy2_1 : World.cell? _ ⟨w.heap.size + 1, 2, none⟩ = some (.slice E1 ay.length e1) := (blk4_c Hy1.out.blk).2.2.1; have yy3_1 : World.cell? _ ⟨w.heap.size + 1, 3, none⟩ = some (.slice F1 n1 f1) := (blk4_c Hy1.out.blk).2.2.2; clear hb yx0_0 yx1_0 yx2_0 yx3_0 yy0_0 yy1_0 yy2_0 yy3_0)
  clear hW0
  go_upto_region 3 with (first
      | (have hgd := HB2; clear hgd; go_at_call 16; refine (number_is (n' := Rx.length) Hrr2.out rfl rfl Hdd2.out (by omega) HEx.out.2.2).mono ?_; rintro e w3 ⟨Ea, ea, rfl, hM, hb⟩; have hx := below_box hb (.cells #[.slice Aa sx'.length ca, .slice Da Rx.length da, .slice Ea Rx.length ea] 37); have HB3 := Aside0.mk (below_then HB2.out HB2.out.size hx); have Hy3 := Aside0.mk (Hy2.out.step hx); have Ha3 := Aside0.mk (WBx.new (n' := Rx.length) (m := Rx.length) hM rfl rfl (HFx.out.1.l)); have yy0_3 : World.cell? _ ⟨w.heap.size + 1, 0, none⟩ = some (.slice A1 sy.length c1) := (blk4_c Hy3.out.blk).1; have yy1_3 : World.cell? _ ⟨w.heap.size + 1, 1, none⟩ = some (.slice B1 ry.length d1) := (blk4_c Hy3.out.blk).2.1; have yy2_3 : World.cell? _ ⟨w.heap.size + 1, 2, none⟩ = some (.slice E1 ay.length e1) := (blk4_c Hy3.out.blk).2.2.1; have yy3_3 : World.cell? _ ⟨w.heap.size + 1, 3, none⟩ = some (.slice F1 n1 f1) := (blk4_c Hy3.out.blk).2.2.2; have ya0_3 : World.cell? _ ⟨w3.heap.size, 0, none⟩ = some (.slice Aa sx'.length ca) := (blk3_c Ha3.out.blk).1; have ya1_3 : World.cell? _ ⟨w3.heap.size, 1, none⟩ = some (.slice Da Rx.length da) := (blk3_c Ha3.out.blk).2.1; have ya2_3 : World.cell? _ ⟨w3.heap.size, 2, none⟩ = some (.slice Ea Rx.length ea) := (blk3_c Ha3.out.blk).2.2; clear hM hb hx yy0_2 yy1_2 yy2_2 yy3_2)
      | (go_at_call 14; refine (ref_is (n' := Rx.length) Hx1.out 999 (by decide) (by decide) hn0 HEx.out.1 HEx.out.2.1 rfl rfl).mono ?_; rintro e w2 ⟨Aa, ca, Da, da, Er, er, rfl, hM, hD, hb⟩; have HB2 := Aside0.mk (below_then HB1.out HB1.out.size hb); have Hy2 := Aside0.mk (Hy1.out.step hb); have Hrr2 := Aside0.mk (hM); have Hdd2 := Aside0.mk (hD); have yy0_2 : World.cell? _ ⟨w.heap.size + 1, 0, none⟩ = some (.slice A1 sy.length c1) := (blk4_c Hy2.out.blk).1; have yy1_2 : World.cell? _ ⟨w.heap.size + 1, 1, none⟩ = some (.slice B1 ry.length d1) := (blk4_c Hy2.out.blk).2.1; have yy2_2 : World.cell? _ ⟨w.heap.size + 1, 2, none⟩ = some (.slice E1 ay.length e1) := (blk4_c Hy2.out.blk).2.2.1; have yy3_2 : World.cell? _ ⟨w.heap.size + 1, 3, none⟩ = some (.slice F1 n1 f1) := (blk4_c Hy2.out.blk).2.2.2; clear hM hD hb yx0_1 yx1_1 yx2_1 yx3_1 yy0_1 yy1_1 yy2_1 yy3_1))
  clear yy0_3 yy1_3 yy2_3 yy3_3 ya0_3 ya1_3 ya2_3
  generalize w3.alloc (.cells #[.slice Aa sx'.length ca, .slice Da Rx.length da, .slice Ea Rx.length ea] 37) = WA at HB3 Ha3 Hy3 ⊢
  generalize w3.heap.size = ga at Ha3 ⊢
  have yy0_3 : World.cell? _ ⟨w.heap.size + 1, 0, none⟩ = some (.slice A1 sy.length c1) := (blk4_c Hy3.out.blk).1
  have yy1_3 : World.cell? _ ⟨w.heap.size + 1, 1, none⟩ = some (.slice B1 ry.length d1) := (blk4_c Hy3.out.blk).2.1
  have yy2_3 : World.cell? _ ⟨w.heap.size + 1, 2, none⟩ = some (.slice E1 ay.length e1) := (blk4_c Hy3.out.blk).2.2.1
  have yy3_3 : World.cell? _ ⟨w.heap.size + 1, 3, none⟩ = some (.slice F1 n1 f1) := (blk4_c Hy3.out.blk).2.2.2
  have ya0_3 : World.cell? _ ⟨ga, 0, none⟩ = some (.slice Aa sx'.length ca) := (blk3_c Ha3.out.blk).1
  have ya1_3 : World.cell? _ ⟨ga, 1, none⟩ = some (.slice Da Rx.length da) := (blk3_c Ha3.out.blk).2.1
  have ya2_3 : World.cell? _ ⟨ga, 2, none⟩ = some (.slice Ea Rx.length ea) := (blk3_c Ha3.out.blk).2.2
  go_upto_block 0 with (first
      | (have hgd := HB4; clear hgd; go_at_call 16; refine (number_sh (n' := Ry.length) Hrr4.out rfl rfl Hdd4.out (by omega) HEy.out.2.2).mono ?_; rintro e w5 ⟨Eb, eb, rfl, hM, hb⟩; have hx := below_box hb (.cells #[.slice Ab sy'.length cb, .slice Db Ry.length db, .slice Eb Ry.length eb] 37); have HQ2 := Aside0.mk (below_then HQ1.out HQ1.out.size hx); have HS0 := Aside0.mk hM; have ysb : World.cell? _ ⟨w5.heap.size, 0, none⟩ = some (.slice Ab sy'.length cb) := (blk3_c HS0.out.blk).1; have HB5 := Aside0.mk (below_then HB4.out HB4.out.size hx); have Ha5 := Aside0.mk (Ha4.out.step hx); have ya0_5 : World.cell? _ ⟨ga, 0, none⟩ = some (.slice Aa sx'.length ca) := (blk3_c Ha5.out.blk).1; have ya1_5 : World.cell? _ ⟨ga, 1, none⟩ = some (.slice Da Rx.length da) := (blk3_c Ha5.out.blk).2.1; have ya2_5 : World.cell? _ ⟨ga, 2, none⟩ = some (.slice Ea Rx.length ea) := (blk3_c Ha5.out.blk).2.2; clear hM hb hx ya0_4 ya1_4 ya2_4)
      | (go_at_call 14; refine (ref_sh (n' := Ry.length) Hy3.out 999 (by decide) (by decide) hn1 HEy.out.1 HEy.out.2.1 rfl rfl).mono ?_; rintro e w4 ⟨Ab, cb, Db, db, Er, er, rfl, hM, hD, hb⟩; have HQ1 := Aside0.mk hb; have HB4 := Aside0.mk (below_then HB3.out HB3.out.size hb); have Ha4 := Aside0.mk (Ha3.out.step hb); have Hrr4 := Aside0.mk (hM); have Hdd4 := Aside0.mk (hD); have ya0_4 : World.cell? _ ⟨ga, 0, none⟩ = some (.slice Aa sx'.length ca) := (blk3_c Ha4.out.blk).1; have ya1_4 : World.cell? _ ⟨ga, 1, none⟩ = some (.slice Da Rx.length da) := (blk3_c Ha4.out.blk).2.1; have ya2_4 : World.cell? _ ⟨ga, 2, none⟩ = some (.slice Ea Rx.length ea) := (blk3_c Ha4.out.blk).2.2; clear hM hD hb yy0_3 yy1_3 yy2_3 yy3_3 ya0_3 ya1_3 ya2_3))
  go_wp2_with fail
  clear ysb ya0_5 ya1_5 ya2_5
  generalize w5.alloc (.cells #[.slice Ab sy'.length cb, .slice Db Ry.length db, .slice Eb Ry.length eb] 37) = WB at HB5 HQ2 HS0 Ha5 ⊢
  generalize w5.heap.size = gb at HS0 ⊢
  clear HQ1 HB5 Ha5
  go_loopw [8] (fun i W => ∃ k : Nat, k ≤ sy'.length ∧ i = .int .i64 k ∧ Aside0 (ShB W WA.heap.size gb Ab cb sy'.length (shTo sy' k) Db db Ry.length Ry Eb eb Ry.length wy ∧ Below WA.heap.size WA W)) (fun i _ => sy'.length - (intOf i).toNat)
  case atStart => exact ⟨0, Nat.zero_le _, rfl, ⟨by rw [shTo_zero]; exact HS0.out, HQ2.out⟩⟩
  case round =>
    clear HS0 HQ2
    obtain ⟨k, hk, rfl, HL⟩ := hrel
    have s0 : World.cell? _ ⟨gb, 0, none⟩ = some (.slice Ab sy'.length cb) := (blk3_c HL.out.1.blk).1
    by_cases hlt : k < sy'.length
    · have hkl : (k : Int) < (sy'.length : Int) := by omega
      have hst := HL.out.1.step (below_drew (Below.refl wr.heap.size wr))
      have e0 : World.cell? _ ⟨gb, 0, none⟩ = some (.slice Ab sy'.length cb) := (blk3_c hst.blk).1
      obtain ⟨gs, hAs, hgs, e1, hfr, hput⟩ := hst.put hlt
      subst hAs
      obtain ⟨z, hz⟩ : ∃ z, rd sy' (k : Int) = z := ⟨_, rfl⟩
      have hzb := HPS.out z (by rw [← hz, rd_get _ _ hlt]; exact List.getElem_mem hlt)
      have hz0 := hzb.1
      have hz5 := hzb.2
      have HSU := Aside0.mk (show (shTo sy' k).set k (z + 5) = shTo sy' (k + 1) from by rw [← hz]; exact shTo_succ hlt)
      rw [shTo_rd hlt, hz] at e1
      have HPUT := Aside0.mk (hput (z + 5))
      have HFR := Aside0.mk hfr
      have HBL := Aside0.mk (((below_then HL.out.2 HL.out.2.size (below_drew (Below.refl wr.heap.size wr))).setCell (p := ⟨gs, k, none⟩) hgs (.int .i64 (z + 5))))
      clear hst hput hfr hz hzb
      go_upto_region 7 with fail
      clear s0
      refine start_ (n := 13) (S := fun w' => w'.cell? ⟨gb, 0, none⟩ = some (.slice (some ⟨gs, 0, none⟩) sy'.length cb) ∧ w'.cell? ⟨gs, k, none⟩ = some (.int .i64 z)) (ds := [12]) #[false, false, false, false, false, false, false, false, false, false, false, false, false] (by kernel_rfl) rfl rfl ⟨e0, e1⟩ (fun hHeld => ?_)
      generalize hD : wr.drew = w17 at *
      clear hD
      refine pure_ (i := 0) (N := some 34) (v := ?_) (a' := ?_) #[true, false, false, false, false, false, false, false, false, false, false, false, false] rfl rfl (by kernel_rfl) (fun _ _ _ h => h) (Or.inl ⟨by rfl, ?_⟩) ?_ ?_
      rotate_left
      · intro w'
        go_simp
        with_reducible rfl
      rotate_left
      · simp only [Act.put, List.setIfInBounds_toArray, List.set_cons_zero, List.set_cons_succ, i64_w, i32_w]
        rfl
      refine pure_ (i := 1) (N := some 35) (v := ?_) (a' := ?_) #[true, true, false, false, false, false, false, false, false, false, false, false, false] rfl rfl (by kernel_rfl) (fun _ _ _ h => h) (Or.inl ⟨by rfl, ?_⟩) ?_ ?_
      rotate_left
      · intro w'
        go_simp
        with_reducible rfl
      rotate_left
      · simp only [Act.put, List.setIfInBounds_toArray, List.set_cons_zero, List.set_cons_succ, i64_w, i32_w]
        rfl
      refine take_ (i := 2) (N := some 36) (v := ?_) (a' := ?_) #[true, true, true, false, false, false, false, false, false, false, false, false, false] rfl rfl (by kernel_rfl) (fun _ _ _ h => h) (Or.inl ⟨by rfl, ?_⟩) hHeld ?_ ?_
      rotate_left
      · rintro w' ⟨s0, s1⟩
        go_simp
        with_reducible rfl
      rotate_left
      · simp only [Act.put, List.setIfInBounds_toArray, List.set_cons_zero, List.set_cons_succ, i64_w, i32_w]
        rfl
      refine pure_ (i := 3) (N := some 37) (v := ?_) (a' := ?_) #[true, true, true, true, false, false, false, false, false, false, false, false, false] rfl rfl (by kernel_rfl) (fun _ _ _ h => h) (Or.inl ⟨by rfl, ?_⟩) ?_ ?_
      rotate_left
      · intro w'
        go_simp
        with_reducible rfl
      rotate_left
      · simp only [Act.put, List.setIfInBounds_toArray, List.set_cons_zero, List.set_cons_succ, i64_w, i32_w]
        rfl
      refine pure_ (i := 4) (N := some 38) (v := ?_) (a' := ?_) #[true, true, true, true, true, false, false, false, false, false, false, false, false] rfl rfl (by kernel_rfl) (fun _ _ _ h => h) (Or.inl ⟨by rfl, ?_⟩) ?_ ?_
      rotate_left
      · intro w'
        go_simp
        with_reducible rfl
      rotate_left
      · simp only [Act.put, List.setIfInBounds_toArray, List.set_cons_zero, List.set_cons_succ, i64_w, i32_w]
        rfl
      refine pure_ (i := 5) (N := some 39) (v := ?_) (a' := ?_) #[true, true, true, true, true, true, false, false, false, false, false, false, false] rfl rfl (by kernel_rfl) (fun _ _ _ h => h) (Or.inl ⟨by rfl, ?_⟩) ?_ ?_
      rotate_left
      · intro w'
        go_simp
        with_reducible rfl
      rotate_left
      · simp only [Act.put, List.setIfInBounds_toArray, List.set_cons_zero, List.set_cons_succ, i64_w, i32_w]
        rfl
      refine take_ (i := 6) (N := some 40) (v := ?_) (a' := ?_) #[true, true, true, true, true, true, true, false, false, false, false, false, false] rfl rfl (by kernel_rfl) (fun _ _ _ h => h) (Or.inl ⟨by rfl, ?_⟩) hHeld ?_ ?_
      rotate_left
      · rintro w' ⟨s0, s1⟩
        go_simp
        with_reducible rfl
      rotate_left
      · simp only [Act.put, List.setIfInBounds_toArray, List.set_cons_zero, List.set_cons_succ, i64_w, i32_w]
        rfl
      refine pure_ (i := 7) (N := some 41) (v := ?_) (a' := ?_) #[true, true, true, true, true, true, true, true, false, false, false, false, false] rfl rfl (by kernel_rfl) (fun _ _ _ h => h) (Or.inl ⟨by rfl, ?_⟩) ?_ ?_
      rotate_left
      · intro w'
        go_simp
        with_reducible rfl
      rotate_left
      · simp only [Act.put, List.setIfInBounds_toArray, List.set_cons_zero, List.set_cons_succ, i64_w, i32_w]
        rfl
      refine pure_ (i := 8) (N := some 42) (v := ?_) (a' := ?_) #[true, true, true, true, true, true, true, true, true, false, false, false, false] rfl rfl (by kernel_rfl) (fun _ _ _ h => h) (Or.inl ⟨by rfl, ?_⟩) ?_ ?_
      rotate_left
      · intro w'
        go_simp
        with_reducible rfl
      rotate_left
      · simp only [Act.put, List.setIfInBounds_toArray, List.set_cons_zero, List.set_cons_succ, i64_w, i32_w]
        rfl
      refine take_ (i := 9) (N := some 43) (v := ?_) (a' := ?_) #[true, true, true, true, true, true, true, true, true, true, false, false, false] rfl rfl (by kernel_rfl) (fun _ _ _ h => h) (Or.inl ⟨by rfl, ?_⟩) hHeld ?_ ?_
      rotate_left
      · rintro w' ⟨s0, s1⟩
        go_simp
        with_reducible rfl
      rotate_left
      · simp only [Act.put, List.setIfInBounds_toArray, List.set_cons_zero, List.set_cons_succ, i64_w, i32_w]
        rfl
      refine pure_ (i := 10) (N := some 44) (v := ?_) (a' := ?_) #[true, true, true, true, true, true, true, true, true, true, true, false, false] rfl rfl (by kernel_rfl) (fun _ _ _ h => h) (Or.inl ⟨by rfl, ?_⟩) ?_ ?_
      rotate_left
      · intro w'
        go_simp
        with_reducible rfl
      rotate_left
      · simp only [Act.put, List.setIfInBounds_toArray, List.set_cons_zero, List.set_cons_succ, i64_w, i32_w]
        rfl
      refine pure_ (i := 11) (N := some 45) (v := ?_) (a' := ?_) #[true, true, true, true, true, true, true, true, true, true, true, true, false] rfl rfl (by kernel_rfl) (fun _ _ _ h => h) (Or.inl ⟨by rfl, ?_⟩) ?_ ?_
      rotate_left
      · intro w'
        go_simp
        with_reducible rfl
      rotate_left
      · simp only [Act.put, List.setIfInBounds_toArray, List.set_cons_zero, List.set_cons_succ, i64_w, i32_w]
        rfl
      refine last_ (i := 12) (N := none) #[true, true, true, true, true, true, true, true, true, true, true, true, true] rfl rfl (by kernel_rfl) (by decide) (fun K hK => ?_)
      have z0 := e1
      have z1 := HFR.out
      refine skip_ (w1 := ?_) (by rfl) rfl ?_ ?_
      rotate_left
      · go_simp
        rfl
      refine hK.out _ _ ?_
      clear hK K
      refine done_ (by kernel_rfl) ?_
      go_wp2
      go_roundw
      case measure => simp [intOf]; omega
      case rel =>
        refine ⟨k + 1, by omega, by go_num, ?_⟩
        rw [show wrap64 (z + 5) = z + 5 from Go.IntWalk.wrap64_in _ (by omega)]
        exact ⟨by rw [← HSU.out]; exact HPUT.out, HBL.out⟩
    · obtain rfl : k = sy'.length := by omega
      have Hb6 := Aside0.mk (show WBx _ gb Ab cb sy'.length (sy'.map (· + 5)) Db db Ry.length Ry Eb eb Ry.length wy from by have h := HL.out.1.wbx; rw [shTo_all] at h; exact h)
      have HB6 := Aside0.mk (below_then HB3.out HB3.out.size HL.out.2)
      clear s0
      have Ha6 := Aside0.mk (Ha3.out.step HL.out.2)
      have ya0_6 : World.cell? _ ⟨ga, 0, none⟩ = some (.slice Aa sx'.length ca) := (blk3_c Ha6.out.blk).1
      have ya1_6 : World.cell? _ ⟨ga, 1, none⟩ = some (.slice Da Rx.length da) := (blk3_c Ha6.out.blk).2.1
      have ya2_6 : World.cell? _ ⟨ga, 2, none⟩ = some (.slice Ea Rx.length ea) := (blk3_c Ha6.out.blk).2.2
      have yb0_6 : World.cell? _ ⟨gb, 0, none⟩ = some (.slice Ab sy'.length cb) := (blk3_c Hb6.out.blk).1
      have yb1_6 : World.cell? _ ⟨gb, 1, none⟩ = some (.slice Db Ry.length db) := (blk3_c Hb6.out.blk).2.1
      have yb2_6 : World.cell? _ ⟨gb, 2, none⟩ = some (.slice Eb Ry.length eb) := (blk3_c Hb6.out.blk).2.2
      go_upto_region 9 with (go_at_call 15; refine (times_is (p' := P.L.length) Ha6.out HFx.out.2.rt (few_inW HFx.out.1) Hb6.out HGm.out.rt (few_inW HG.out) (by have := HFx.out.2.s; omega) (by rw [List.length_map]; omega) 1000 (HT.out.step HB6.out) HP.out.1 rfl rfl HP.out.2.2.2.1).mono ?_; rintro e w7 ⟨Ap, cp, Dp, dp, Ep, ep, rfl, hM, hb⟩; have hx := below_box hb (.cells #[.slice Ap P.sc.length cp, .slice Dp P.L.length dp, .slice Ep P.L.length ep] 37); have HB7 := Aside0.mk (below_then HB6.out HB6.out.size hx); have Ha7 := Aside0.mk (Ha6.out.step hx); have Hb7 := Aside0.mk (Hb6.out.step hx); have Hp7 := Aside0.mk (WBx.new hM.rd rfl rfl HP.out.2.2.2.1); have ya0_7 : World.cell? _ ⟨ga, 0, none⟩ = some (.slice Aa sx'.length ca) := (blk3_c Ha7.out.blk).1; have ya1_7 : World.cell? _ ⟨ga, 1, none⟩ = some (.slice Da Rx.length da) := (blk3_c Ha7.out.blk).2.1; have ya2_7 : World.cell? _ ⟨ga, 2, none⟩ = some (.slice Ea Rx.length ea) := (blk3_c Ha7.out.blk).2.2; have yb0_7 : World.cell? _ ⟨gb, 0, none⟩ = some (.slice Ab sy'.length cb) := (blk3_c Hb7.out.blk).1; have yb1_7 : World.cell? _ ⟨gb, 1, none⟩ = some (.slice Db Ry.length db) := (blk3_c Hb7.out.blk).2.1; have yb2_7 : World.cell? _ ⟨gb, 2, none⟩ = some (.slice Eb Ry.length eb) := (blk3_c Hb7.out.blk).2.2; have yp0_7 : World.cell? _ ⟨w7.heap.size, 0, none⟩ = some (.slice Ap P.sc.length cp) := (blk3_c Hp7.out.blk).1; have yp1_7 : World.cell? _ ⟨w7.heap.size, 1, none⟩ = some (.slice Dp P.L.length dp) := (blk3_c Hp7.out.blk).2.1; have yp2_7 : World.cell? _ ⟨w7.heap.size, 2, none⟩ = some (.slice Ep P.L.length ep) := (blk3_c Hp7.out.blk).2.2; clear hM hb hx ya0_6 ya1_6 ya2_6 yb0_6 yb1_6 yb2_6)
      go_upto_region 10 with (go_at_call 25; refine (sum_some Hp7.out.rd rfl rfl HP.out.2.2.2.1 HP.out.2.1 HP.out.2.2.1 HP.out.2.2.2.1 HP.out.2.2.2.2.1 HP.out.2.2.2.2.2.1 HP.out.2.2.2.2.2.2.1 HP.out.2.2.2.2.2.2.2).mono ?_; rintro e w8 ⟨As, cs, Ds, ds, Es, es, rfl, hM, hb⟩; obtain ⟨qs, rfl, hqs⟩ := at_int' hM.rd.w (Below.refl _ _) 0 (by decide) (by simp); simp only [Int.toNat_zero, Addr.add_zero'] at hqs; replace hqs : w8.cell? qs = some (.int .i64 (X * Y)) := hqs; have hx := below_box hb (.cells #[.slice As 0 cs, .slice Ds 1 ds, .slice (some qs) 1 es] 37); have HB8 := Aside0.mk (below_then HB7.out HB7.out.size hx); have Ha8 := Aside0.mk (Ha7.out.step hx); have Hb8 := Aside0.mk (Hb7.out.step hx); have Hs8 := Aside0.mk (WBx.new hM.rd rfl rfl rfl); have Hsv8 := Aside0.mk (cell_below (below_alloc (Below.refl _ _) (.cells #[.slice As 0 cs, .slice Ds 1 ds, .slice (some qs) 1 es] 37)) hqs); have ya0_8 : World.cell? _ ⟨ga, 0, none⟩ = some (.slice Aa sx'.length ca) := (blk3_c Ha8.out.blk).1; have ya1_8 : World.cell? _ ⟨ga, 1, none⟩ = some (.slice Da Rx.length da) := (blk3_c Ha8.out.blk).2.1; have ya2_8 : World.cell? _ ⟨ga, 2, none⟩ = some (.slice Ea Rx.length ea) := (blk3_c Ha8.out.blk).2.2; have yb0_8 : World.cell? _ ⟨gb, 0, none⟩ = some (.slice Ab sy'.length cb) := (blk3_c Hb8.out.blk).1; have yb1_8 : World.cell? _ ⟨gb, 1, none⟩ = some (.slice Db Ry.length db) := (blk3_c Hb8.out.blk).2.1; have yb2_8 : World.cell? _ ⟨gb, 2, none⟩ = some (.slice Eb Ry.length eb) := (blk3_c Hb8.out.blk).2.2; have ys0_8 : World.cell? _ ⟨w8.heap.size, 0, none⟩ = some (.slice As 0 cs) := (blk3_c Hs8.out.blk).1; have ys1_8 : World.cell? _ ⟨w8.heap.size, 1, none⟩ = some (.slice Ds 1 ds) := (blk3_c Hs8.out.blk).2.1; have ys2_8 : World.cell? _ ⟨w8.heap.size, 2, none⟩ = some (.slice (some qs) 1 es) := (blk3_c Hs8.out.blk).2.2; have ysv0_8 : World.cell? _ qs = some (.int .i64 (X * Y)) := Hsv8.out; clear hM hqs hb hx ya0_7 ya1_7 ya2_7 yb0_7 yb1_7 yb2_7 yp0_7 yp1_7 yp2_7)
      go_upto_region 11 with (go_at_call 25; refine (sum_some Ha8.out.rd rfl rfl HFx.out.1.l HFx.out.1.r.1.1 (by have := HFx.out.2.s; omega) HFx.out.1.l (by have := HFx.out.2.l; omega) HNx.out (few_tot HFx.out.1) HXY.out.1).mono ?_; rintro e w9 ⟨Aq, cq, Dq, dq, Eq, eq, rfl, hM, hb⟩; have hx := below_box hb (.cells #[.slice Aq 0 cq, .slice Dq 1 dq, .slice Eq 1 eq] 37); have HB9 := Aside0.mk (below_then HB8.out HB8.out.size hx); have Hb9 := Aside0.mk (Hb8.out.step hx); have Hs9 := Aside0.mk (Hs8.out.step hx); have Hsv9 := Aside0.mk (cell_below hx Hsv8.out); have Hq9 := Aside0.mk (WBx.new hM.rd rfl rfl rfl); have yb0_9 : World.cell? _ ⟨gb, 0, none⟩ = some (.slice Ab sy'.length cb) := (blk3_c Hb9.out.blk).1; have yb1_9 : World.cell? _ ⟨gb, 1, none⟩ = some (.slice Db Ry.length db) := (blk3_c Hb9.out.blk).2.1; have yb2_9 : World.cell? _ ⟨gb, 2, none⟩ = some (.slice Eb Ry.length eb) := (blk3_c Hb9.out.blk).2.2; have ys0_9 : World.cell? _ ⟨w8.heap.size, 0, none⟩ = some (.slice As 0 cs) := (blk3_c Hs9.out.blk).1; have ys1_9 : World.cell? _ ⟨w8.heap.size, 1, none⟩ = some (.slice Ds 1 ds) := (blk3_c Hs9.out.blk).2.1; have ys2_9 : World.cell? _ ⟨w8.heap.size, 2, none⟩ = some (.slice (some qs) 1 es) := (blk3_c Hs9.out.blk).2.2; have ysv0_9 : World.cell? _ qs = some (.int .i64 (X * Y)) := Hsv9.out; have yq0_9 : World.cell? _ ⟨w9.heap.size, 0, none⟩ = some (.slice Aq 0 cq) := (blk3_c Hq9.out.blk).1; have yq1_9 : World.cell? _ ⟨w9.heap.size, 1, none⟩ = some (.slice Dq 1 dq) := (blk3_c Hq9.out.blk).2.1; have yq2_9 : World.cell? _ ⟨w9.heap.size, 2, none⟩ = some (.slice Eq 1 eq) := (blk3_c Hq9.out.blk).2.2; clear hM hb hx ya0_8 ya1_8 ya2_8 yb0_8 yb1_8 yb2_8 ys0_8 ys1_8 ys2_8 ysv0_8)
      go_upto_region 12 with (go_at_call 25; refine (sum_some Hb9.out.rd (List.length_map ..) rfl HG.out.l HG.out.r.1.1 (by rw [List.length_map]; omega) HG.out.l (by have := HFy.out.2.l; omega) HNy.out (few_tot HG.out) HXY.out.2.1).mono ?_; rintro e w10 ⟨Ar, cr, Dr, dr, Er, er, rfl, hM, hb⟩; have hx := below_box hb (.cells #[.slice Ar 0 cr, .slice Dr 1 dr, .slice Er 1 er] 37); have HB10 := Aside0.mk (below_then HB9.out HB9.out.size hx); have Hs10 := Aside0.mk (Hs9.out.step hx); have Hsv10 := Aside0.mk (cell_below hx Hsv9.out); have Hq10 := Aside0.mk (Hq9.out.step hx); have Hr10 := Aside0.mk (WBx.new hM.rd rfl rfl rfl); have ys0_10 : World.cell? _ ⟨w8.heap.size, 0, none⟩ = some (.slice As 0 cs) := (blk3_c Hs10.out.blk).1; have ys1_10 : World.cell? _ ⟨w8.heap.size, 1, none⟩ = some (.slice Ds 1 ds) := (blk3_c Hs10.out.blk).2.1; have ys2_10 : World.cell? _ ⟨w8.heap.size, 2, none⟩ = some (.slice (some qs) 1 es) := (blk3_c Hs10.out.blk).2.2; have ysv0_10 : World.cell? _ qs = some (.int .i64 (X * Y)) := Hsv10.out; have yq0_10 : World.cell? _ ⟨w9.heap.size, 0, none⟩ = some (.slice Aq 0 cq) := (blk3_c Hq10.out.blk).1; have yq1_10 : World.cell? _ ⟨w9.heap.size, 1, none⟩ = some (.slice Dq 1 dq) := (blk3_c Hq10.out.blk).2.1; have yq2_10 : World.cell? _ ⟨w9.heap.size, 2, none⟩ = some (.slice Eq 1 eq) := (blk3_c Hq10.out.blk).2.2; have yr0_10 : World.cell? _ ⟨w10.heap.size, 0, none⟩ = some (.slice Ar 0 cr) := (blk3_c Hr10.out.blk).1; have yr1_10 : World.cell? _ ⟨w10.heap.size, 1, none⟩ = some (.slice Dr 1 dr) := (blk3_c Hr10.out.blk).2.1; have yr2_10 : World.cell? _ ⟨w10.heap.size, 2, none⟩ = some (.slice Er 1 er) := (blk3_c Hr10.out.blk).2.2; clear hM hb hx yb0_9 yb1_9 yb2_9 ys0_9 ys1_9 ys2_9 ysv0_9 yq0_9 yq1_9 yq2_9)
      go_upto_region 13 with (go_at_call 15; refine (times_is (p' := 1) Hq10.out rt_unit (inW_one (by have h := HXY.out.2.2.1; omega)) Hr10.out rt_unit (inW_one (by have h := HXY.out.2.2.2.1; omega)) (by simp) (by simp) 1 (HT.out.step HB10.out) (edge_prod HXY.out.2.2.2.2) rfl rfl rfl).mono ?_; rintro e w11 ⟨At, ct, Dt, dt, Et, et, rfl, hM, hb⟩; obtain ⟨qt, rfl, hqt⟩ := at_int' hM.rd.w (Below.refl _ _) 0 (by decide) (by simp); simp only [Int.toNat_zero, Addr.add_zero'] at hqt; replace hqt : w11.cell? qt = some (.int .i64 (X * Y)) := hqt; have hx := below_box hb (.cells #[.slice At 0 ct, .slice Dt 1 dt, .slice (some qt) 1 et] 37); have HB11 := Aside0.mk (below_then HB10.out HB10.out.size hx); have Hs11 := Aside0.mk (Hs10.out.step hx); have Hsv11 := Aside0.mk (cell_below hx Hsv10.out); have Ht11 := Aside0.mk (WBx.new hM.rd rfl rfl rfl); have Htv11 := Aside0.mk (cell_below (below_alloc (Below.refl _ _) (.cells #[.slice At 0 ct, .slice Dt 1 dt, .slice (some qt) 1 et] 37)) hqt); have ys0_11 : World.cell? _ ⟨w8.heap.size, 0, none⟩ = some (.slice As 0 cs) := (blk3_c Hs11.out.blk).1; have ys1_11 : World.cell? _ ⟨w8.heap.size, 1, none⟩ = some (.slice Ds 1 ds) := (blk3_c Hs11.out.blk).2.1; have ys2_11 : World.cell? _ ⟨w8.heap.size, 2, none⟩ = some (.slice (some qs) 1 es) := (blk3_c Hs11.out.blk).2.2; have ysv0_11 : World.cell? _ qs = some (.int .i64 (X * Y)) := Hsv11.out; have yt0_11 : World.cell? _ ⟨w11.heap.size, 0, none⟩ = some (.slice At 0 ct) := (blk3_c Ht11.out.blk).1; have yt1_11 : World.cell? _ ⟨w11.heap.size, 1, none⟩ = some (.slice Dt 1 dt) := (blk3_c Ht11.out.blk).2.1; have yt2_11 : World.cell? _ ⟨w11.heap.size, 2, none⟩ = some (.slice (some qt) 1 et) := (blk3_c Ht11.out.blk).2.2; have ytv0_11 : World.cell? _ qt = some (.int .i64 (X * Y)) := Htv11.out; clear hM hqt hb hx ys0_10 ys1_10 ys2_10 ysv0_10 yq0_10 yq1_10 yq2_10 yr0_10 yr1_10 yr2_10)
      go_upto_region 15 with fail
      go_quiet (fail)
      go_wp2
      go_ret
      exact ⟨rfl, below_then HB11.out HB11.out.size (pw_below_drewN (Below.refl _ _) _)⟩
set_option maxHeartbeats 8000000 in
set_option maxRecDepth 100000 in
theorem weighparts_en (A0 : Option Addr) (c0 : Nat) (sx : List Int) (B0 : Option Addr) (d0 : Nat) (rx : List (List Int)) (E0 : Option Addr) (e0 : Nat) (ax : List Int) (F0 : Option Addr) (n0 f0 : Nat) (A1 : Option Addr) (c1 : Nat) (sy : List Int) (B1 : Option Addr) (d1 : Nat) (ry : List (List Int)) (E1 : Option Addr) (e1 : Nat) (ay : List Int) (F1 : Option Addr) (n1 f1 : Nat) (w : World) (hr0 : RelRd w A0 c0 sx B0 d0 rx) (ha0 : Kd.C KI w E0 ax.length ax) (hn0 : n0 ≤ 9223372036854775807) (hr1 : RelRd w A1 c1 sy B1 d1 ry) (ha1 : Kd.C KI w E1 ay.length ay) (hn1 : n1 ≤ 9223372036854775807) (htab : Tab w) (hx0 : ∀ s R, smallS3 sx = s → smallRows3 s.length rx = R → R = []) (hy0 : ∀ s R, smallS3 sy = s → smallRows3 s.length ry = R → R ≠ []) :
    Calls Tryz.prog 6 #[.agg #[.slice A0 sx.length c0, .slice B0 rx.length d0, .slice E0 ax.length e0, .slice F0 n0 f0], .agg #[.slice A1 sy.length c1, .slice B1 ry.length d1, .slice E1 ay.length e1, .slice F1 n1 f1]] w fun e w' => e = .returned (.bool true) ∧ Below w.heap.size w w' := by
  have HT := Aside0.mk htab
  clear htab
  obtain ⟨sx', hs⟩ : ∃ s, smallS3 sx = s := ⟨_, rfl⟩
  obtain ⟨Rx, hR⟩ : ∃ R, smallRows3 sx'.length rx = R := ⟨_, rfl⟩
  obtain ⟨wx, hw⟩ : ∃ ws, (List.range Rx.length).map (refV 999 ax) = ws := ⟨_, rfl⟩
  have HFx := Aside0.mk (few4_of (by decide) (by decide) hs hR hw)
  have HEx := Aside0.mk (And.intro hs (And.intro hR hw))
  have hRlx : Rx.length ≤ 12 := HFx.out.2.l
  clear hs hR hw
  obtain ⟨sy', hs⟩ : ∃ s, smallS3 sy = s := ⟨_, rfl⟩
  obtain ⟨Ry, hR⟩ : ∃ R, smallRows3 sy'.length ry = R := ⟨_, rfl⟩
  obtain ⟨wy, hw⟩ : ∃ ws, (List.range Ry.length).map (refV 999 ay) = ws := ⟨_, rfl⟩
  have HFy := Aside0.mk (few4_of (by decide) (by decide) hs hR hw)
  have HEy := Aside0.mk (And.intro hs (And.intro hR hw))
  have hRly : Ry.length ≤ 12 := HFy.out.2.l
  clear hs hR hw
  obtain rfl : Rx = [] := hx0 _ _ HEx.out.1 HEx.out.2.1
  obtain rfl : wx = [] := List.length_eq_zero_iff.1 (by rw [HFx.out.1.l]; rfl)
  clear hx0
  have hNy : Ry ≠ [] := hy0 _ _ HEy.out.1 HEy.out.2.1
  have HNy := Aside0.mk hNy
  have HNwy := Aside0.mk (show wy ≠ [] from fun e => hNy (List.length_eq_zero_iff.1 (by rw [← HFy.out.1.l, e]; rfl)))
  clear hy0 hNy
  have HG := Aside0.mk (shift_few HFy.out.1)
  have HGm := Aside0.mk (shift_rt HFy.out.2)
  have HD := Aside0.mk (show ∀ v ∈ sx', v ∉ sy'.map (· + 5) from by rw [← HEx.out.1, ← HEy.out.1]; exact shift_apart)
  have HPS := Aside0.mk (show ∀ v ∈ sy', 0 ≤ v ∧ v < 5 from by rw [← HEy.out.1]; exact smallS3_pos sy)
  have hsl : sy'.length ≤ 3 := HFy.out.2.s
  obtain ⟨P, hP1, hP2, hP3, hP4, hP5, hP6, hP7, hP8⟩ := parts_times HFx.out.1 HG.out HD.out
  obtain ⟨X, hX⟩ : ∃ X, ([] : List Int).sum = X := ⟨_, rfl⟩
  obtain ⟨Y, hY⟩ : ∃ Y, wy.sum = Y := ⟨_, rfl⟩
  have hx1 := few_sum HFx.out.1
  have hy1 := few_sum HG.out
  have hxy := few_prod HFx.out.1 HG.out
  simp only [hX, hY] at hx1 hy1 hxy hP6
  have HXY := Aside0.mk (And.intro hX (And.intro hY (And.intro hx1 (And.intro hy1 hxy))))
  have hsc : P.sc.length ≤ 1000000 := by rw [hP2]; have h := merge_len true true true sx' (sy'.map (· + 5)); have h2 := HFx.out.2.s; rw [List.length_map] at h; show (merge true true true sx' (sy'.map (· + 5))).length ≤ _; omega
  have hPL : P.L.length = 0 := by rw [hP5]; simp
  have HP := Aside0.mk (And.intro hP1 (And.intro hP3.1.1 (And.intro hsc (And.intro hP4 (And.intro hPL (hP4.trans hPL))))))
  clear hP1 hP2 hP3 hP4 hP5 hP6 hP7 hP8 hX hY hx1 hy1 hxy hsc hPL
  obtain ⟨W0, hW0⟩ : ∃ W0, (w.alloc (.cells #[.slice A0 sx.length c0, .slice B0 rx.length d0, .slice E0 ax.length e0, .slice F0 n0 f0] 26)).alloc (.cells #[.slice A1 sy.length c1, .slice B1 ry.length d1, .slice E1 ay.length e1, .slice F1 n1 f1] 26) = W0 := ⟨_, rfl⟩
  have HB0 := Aside0.mk (show Below w.heap.size w W0 from by rw [← hW0]; exact below_alloc (below_alloc (Below.refl _ _) _) _)
  have Hx0 := Aside0.mk (show P4Bx W0 w.heap.size A0 c0 sx B0 d0 rx E0 e0 ax F0 n0 f0 from ⟨by rw [← hW0]; exact blk_two1 _ _ _, hr0.step HB0.out, Kd.C_below ha0 HB0.out⟩)
  have Hy0 := Aside0.mk (show P4Bx W0 (w.heap.size + 1) A1 c1 sy B1 d1 ry E1 e1 ay F1 n1 f1 from ⟨by rw [← hW0]; exact blk_two2 _ _ _, hr1.step HB0.out, Kd.C_below ha1 HB0.out⟩)
  clear hr0 ha0 hr1 ha1
  have yx0_0 : World.cell? _ ⟨w.heap.size, 0, none⟩ = some (.slice A0 sx.length c0) := (blk4_c Hx0.out.blk).1
  have yx1_0 : World.cell? _ ⟨w.heap.size, 1, none⟩ = some (.slice B0 rx.length d0) := (blk4_c Hx0.out.blk).2.1
  have yx2_0 : World.cell? _ ⟨w.heap.size, 2, none⟩ = some (.slice E0 ax.length e0) := (blk4_c Hx0.out.blk).2.2.1
  have yx3_0 : World.cell? _ ⟨w.heap.size, 3, none⟩ = some (.slice F0 n0 f0) := (blk4_c Hx0.out.blk).2.2.2
  have yy0_0 : World.cell? _ ⟨w.heap.size + 1, 0, none⟩ = some (.slice A1 sy.length c1) := (blk4_c Hy0.out.blk).1
  have yy1_0 : World.cell? _ ⟨w.heap.size + 1, 1, none⟩ = some (.slice B1 ry.length d1) := (blk4_c Hy0.out.blk).2.1
  have yy2_0 : World.cell? _ ⟨w.heap.size + 1, 2, none⟩ = some (.slice E1 ay.length e1) := (blk4_c Hy0.out.blk).2.2.1
  have yy3_0 : World.cell? _ ⟨w.heap.size + 1, 3, none⟩ = some (.slice F1 n1 f1) := (blk4_c Hy0.out.blk).2.2.2
  go_enter Tryz.func6, Tryz.ntmps6
  go_upto_region 2 with (go_at_call 12; refine (shown4_any _ (HT.out.step HB0.out)).mono ?_; rintro e w1 ⟨rfl, hb⟩; have HB1 := Aside0.mk (below_then HB0.out HB0.out.size hb); have Hx1 := Aside0.mk (Hx0.out.step hb); have Hy1 := Aside0.mk (Hy0.out.step hb); have yx0_1 : World.cell? _ ⟨w.heap.size, 0, none⟩ = some (.slice A0 sx.length c0) := (blk4_c Hx1.out.blk).1; have yx1_1 : World.cell? _ ⟨w.heap.size, 1, none⟩ = some (.slice B0 rx.length d0) := (blk4_c Hx1.out.blk).2.1; have yx2_1 : World.cell? _ ⟨w.heap.size, 2, none⟩ = some (.slice E0 ax.length e0) := (blk4_c Hx1.out.blk).2.2.1; have yx3_1 : World.cell? _ ⟨w.heap.size, 3, none⟩ = some (.slice F0 n0 f0) := (blk4_c Hx1.out.blk).2.2.2; have yy0_1 : World.cell? _ ⟨w.heap.size + 1, 0, none⟩ = some (.slice A1 sy.length c1) := (blk4_c Hy1.out.blk).1; have yy1_1 : World.cell? _ ⟨w.heap.size + 1, 1, none⟩ = some (.slice B1 ry.length d1) := (blk4_c Hy1.out.blk).2.1; have yy2_1 : World.cell? _ ⟨w.heap.size + 1, 2, none⟩ = some (.slice E1 ay.length e1) := (blk4_c Hy1.out.blk).2.2.1; have yy3_1 : World.cell? _ ⟨w.heap.size + 1, 3, none⟩ = some (.slice F1 n1 f1) := (blk4_c Hy1.out.blk).2.2.2; clear hb yx0_0 yx1_0 yx2_0 yx3_0 yy0_0 yy1_0 yy2_0 yy3_0)
  clear hW0
  go_upto_region 3 with (first
      | (have hgd := HB2; clear hgd; go_at_call 16; refine (number_is (n' := 0) Hrr2.out rfl rfl Hdd2.out (by omega) HEx.out.2.2).mono ?_; rintro e w3 ⟨Ea, ea, rfl, hM, hb⟩; have hx := below_box hb (.cells #[.slice Aa sx'.length ca, .slice Da 0 da, .slice Ea 0 ea] 37); have HB3 := Aside0.mk (below_then HB2.out HB2.out.size hx); have Hy3 := Aside0.mk (Hy2.out.step hx); have Ha3 := Aside0.mk (WBx.new (n' := 0) (m := 0) hM rfl rfl (HFx.out.1.l)); have yy0_3 : World.cell? _ ⟨w.heap.size + 1, 0, none⟩ = some (.slice A1 sy.length c1) := (blk4_c Hy3.out.blk).1; have yy1_3 : World.cell? _ ⟨w.heap.size + 1, 1, none⟩ = some (.slice B1 ry.length d1) := (blk4_c Hy3.out.blk).2.1; have yy2_3 : World.cell? _ ⟨w.heap.size + 1, 2, none⟩ = some (.slice E1 ay.length e1) := (blk4_c Hy3.out.blk).2.2.1; have yy3_3 : World.cell? _ ⟨w.heap.size + 1, 3, none⟩ = some (.slice F1 n1 f1) := (blk4_c Hy3.out.blk).2.2.2; have ya0_3 : World.cell? _ ⟨w3.heap.size, 0, none⟩ = some (.slice Aa sx'.length ca) := (blk3_c Ha3.out.blk).1; have ya1_3 : World.cell? _ ⟨w3.heap.size, 1, none⟩ = some (.slice Da 0 da) := (blk3_c Ha3.out.blk).2.1; have ya2_3 : World.cell? _ ⟨w3.heap.size, 2, none⟩ = some (.slice Ea 0 ea) := (blk3_c Ha3.out.blk).2.2; clear hM hb hx yy0_2 yy1_2 yy2_2 yy3_2)
      | (go_at_call 14; refine (ref_is (n' := 0) Hx1.out 999 (by decide) (by decide) hn0 HEx.out.1 HEx.out.2.1 rfl rfl).mono ?_; rintro e w2 ⟨Aa, ca, Da, da, Er, er, rfl, hM, hD, hb⟩; have HB2 := Aside0.mk (below_then HB1.out HB1.out.size hb); have Hy2 := Aside0.mk (Hy1.out.step hb); have Hrr2 := Aside0.mk (hM); have Hdd2 := Aside0.mk (hD); have yy0_2 : World.cell? _ ⟨w.heap.size + 1, 0, none⟩ = some (.slice A1 sy.length c1) := (blk4_c Hy2.out.blk).1; have yy1_2 : World.cell? _ ⟨w.heap.size + 1, 1, none⟩ = some (.slice B1 ry.length d1) := (blk4_c Hy2.out.blk).2.1; have yy2_2 : World.cell? _ ⟨w.heap.size + 1, 2, none⟩ = some (.slice E1 ay.length e1) := (blk4_c Hy2.out.blk).2.2.1; have yy3_2 : World.cell? _ ⟨w.heap.size + 1, 3, none⟩ = some (.slice F1 n1 f1) := (blk4_c Hy2.out.blk).2.2.2; clear hM hD hb yx0_1 yx1_1 yx2_1 yx3_1 yy0_1 yy1_1 yy2_1 yy3_1))
  clear yy0_3 yy1_3 yy2_3 yy3_3 ya0_3 ya1_3 ya2_3
  generalize w3.alloc (.cells #[.slice Aa sx'.length ca, .slice Da 0 da, .slice Ea 0 ea] 37) = WA at HB3 Ha3 Hy3 ⊢
  generalize w3.heap.size = ga at Ha3 ⊢
  have yy0_3 : World.cell? _ ⟨w.heap.size + 1, 0, none⟩ = some (.slice A1 sy.length c1) := (blk4_c Hy3.out.blk).1
  have yy1_3 : World.cell? _ ⟨w.heap.size + 1, 1, none⟩ = some (.slice B1 ry.length d1) := (blk4_c Hy3.out.blk).2.1
  have yy2_3 : World.cell? _ ⟨w.heap.size + 1, 2, none⟩ = some (.slice E1 ay.length e1) := (blk4_c Hy3.out.blk).2.2.1
  have yy3_3 : World.cell? _ ⟨w.heap.size + 1, 3, none⟩ = some (.slice F1 n1 f1) := (blk4_c Hy3.out.blk).2.2.2
  have ya0_3 : World.cell? _ ⟨ga, 0, none⟩ = some (.slice Aa sx'.length ca) := (blk3_c Ha3.out.blk).1
  have ya1_3 : World.cell? _ ⟨ga, 1, none⟩ = some (.slice Da 0 da) := (blk3_c Ha3.out.blk).2.1
  have ya2_3 : World.cell? _ ⟨ga, 2, none⟩ = some (.slice Ea 0 ea) := (blk3_c Ha3.out.blk).2.2
  go_upto_block 0 with (first
      | (have hgd := HB4; clear hgd; go_at_call 16; refine (number_sh (n' := Ry.length) Hrr4.out rfl rfl Hdd4.out (by omega) HEy.out.2.2).mono ?_; rintro e w5 ⟨Eb, eb, rfl, hM, hb⟩; have hx := below_box hb (.cells #[.slice Ab sy'.length cb, .slice Db Ry.length db, .slice Eb Ry.length eb] 37); have HQ2 := Aside0.mk (below_then HQ1.out HQ1.out.size hx); have HS0 := Aside0.mk hM; have ysb : World.cell? _ ⟨w5.heap.size, 0, none⟩ = some (.slice Ab sy'.length cb) := (blk3_c HS0.out.blk).1; have HB5 := Aside0.mk (below_then HB4.out HB4.out.size hx); have Ha5 := Aside0.mk (Ha4.out.step hx); have ya0_5 : World.cell? _ ⟨ga, 0, none⟩ = some (.slice Aa sx'.length ca) := (blk3_c Ha5.out.blk).1; have ya1_5 : World.cell? _ ⟨ga, 1, none⟩ = some (.slice Da 0 da) := (blk3_c Ha5.out.blk).2.1; have ya2_5 : World.cell? _ ⟨ga, 2, none⟩ = some (.slice Ea 0 ea) := (blk3_c Ha5.out.blk).2.2; clear hM hb hx ya0_4 ya1_4 ya2_4)
      | (go_at_call 14; refine (ref_sh (n' := Ry.length) Hy3.out 999 (by decide) (by decide) hn1 HEy.out.1 HEy.out.2.1 rfl rfl).mono ?_; rintro e w4 ⟨Ab, cb, Db, db, Er, er, rfl, hM, hD, hb⟩; have HQ1 := Aside0.mk hb; have HB4 := Aside0.mk (below_then HB3.out HB3.out.size hb); have Ha4 := Aside0.mk (Ha3.out.step hb); have Hrr4 := Aside0.mk (hM); have Hdd4 := Aside0.mk (hD); have ya0_4 : World.cell? _ ⟨ga, 0, none⟩ = some (.slice Aa sx'.length ca) := (blk3_c Ha4.out.blk).1; have ya1_4 : World.cell? _ ⟨ga, 1, none⟩ = some (.slice Da 0 da) := (blk3_c Ha4.out.blk).2.1; have ya2_4 : World.cell? _ ⟨ga, 2, none⟩ = some (.slice Ea 0 ea) := (blk3_c Ha4.out.blk).2.2; clear hM hD hb yy0_3 yy1_3 yy2_3 yy3_3 ya0_3 ya1_3 ya2_3))
  go_wp2_with fail
  clear ysb ya0_5 ya1_5 ya2_5
  generalize w5.alloc (.cells #[.slice Ab sy'.length cb, .slice Db Ry.length db, .slice Eb Ry.length eb] 37) = WB at HB5 HQ2 HS0 Ha5 ⊢
  generalize w5.heap.size = gb at HS0 ⊢
  clear HQ1 HB5 Ha5
  go_loopw [8] (fun i W => ∃ k : Nat, k ≤ sy'.length ∧ i = .int .i64 k ∧ Aside0 (ShB W WA.heap.size gb Ab cb sy'.length (shTo sy' k) Db db Ry.length Ry Eb eb Ry.length wy ∧ Below WA.heap.size WA W)) (fun i _ => sy'.length - (intOf i).toNat)
  case atStart => exact ⟨0, Nat.zero_le _, rfl, ⟨by rw [shTo_zero]; exact HS0.out, HQ2.out⟩⟩
  case round =>
    clear HS0 HQ2
    obtain ⟨k, hk, rfl, HL⟩ := hrel
    have s0 : World.cell? _ ⟨gb, 0, none⟩ = some (.slice Ab sy'.length cb) := (blk3_c HL.out.1.blk).1
    by_cases hlt : k < sy'.length
    · have hkl : (k : Int) < (sy'.length : Int) := by omega
      have hst := HL.out.1.step (below_drew (Below.refl wr.heap.size wr))
      have e0 : World.cell? _ ⟨gb, 0, none⟩ = some (.slice Ab sy'.length cb) := (blk3_c hst.blk).1
      obtain ⟨gs, hAs, hgs, e1, hfr, hput⟩ := hst.put hlt
      subst hAs
      obtain ⟨z, hz⟩ : ∃ z, rd sy' (k : Int) = z := ⟨_, rfl⟩
      have hzb := HPS.out z (by rw [← hz, rd_get _ _ hlt]; exact List.getElem_mem hlt)
      have hz0 := hzb.1
      have hz5 := hzb.2
      have HSU := Aside0.mk (show (shTo sy' k).set k (z + 5) = shTo sy' (k + 1) from by rw [← hz]; exact shTo_succ hlt)
      rw [shTo_rd hlt, hz] at e1
      have HPUT := Aside0.mk (hput (z + 5))
      have HFR := Aside0.mk hfr
      have HBL := Aside0.mk (((below_then HL.out.2 HL.out.2.size (below_drew (Below.refl wr.heap.size wr))).setCell (p := ⟨gs, k, none⟩) hgs (.int .i64 (z + 5))))
      clear hst hput hfr hz hzb
      go_upto_region 7 with fail
      clear s0
      refine start_ (n := 13) (S := fun w' => w'.cell? ⟨gb, 0, none⟩ = some (.slice (some ⟨gs, 0, none⟩) sy'.length cb) ∧ w'.cell? ⟨gs, k, none⟩ = some (.int .i64 z)) (ds := [12]) #[false, false, false, false, false, false, false, false, false, false, false, false, false] (by kernel_rfl) rfl rfl ⟨e0, e1⟩ (fun hHeld => ?_)
      generalize hD : wr.drew = w17 at *
      clear hD
      refine pure_ (i := 0) (N := some 34) (v := ?_) (a' := ?_) #[true, false, false, false, false, false, false, false, false, false, false, false, false] rfl rfl (by kernel_rfl) (fun _ _ _ h => h) (Or.inl ⟨by rfl, ?_⟩) ?_ ?_
      rotate_left
      · intro w'
        go_simp
        with_reducible rfl
      rotate_left
      · simp only [Act.put, List.setIfInBounds_toArray, List.set_cons_zero, List.set_cons_succ, i64_w, i32_w]
        rfl
      refine pure_ (i := 1) (N := some 35) (v := ?_) (a' := ?_) #[true, true, false, false, false, false, false, false, false, false, false, false, false] rfl rfl (by kernel_rfl) (fun _ _ _ h => h) (Or.inl ⟨by rfl, ?_⟩) ?_ ?_
      rotate_left
      · intro w'
        go_simp
        with_reducible rfl
      rotate_left
      · simp only [Act.put, List.setIfInBounds_toArray, List.set_cons_zero, List.set_cons_succ, i64_w, i32_w]
        rfl
      refine take_ (i := 2) (N := some 36) (v := ?_) (a' := ?_) #[true, true, true, false, false, false, false, false, false, false, false, false, false] rfl rfl (by kernel_rfl) (fun _ _ _ h => h) (Or.inl ⟨by rfl, ?_⟩) hHeld ?_ ?_
      rotate_left
      · rintro w' ⟨s0, s1⟩
        go_simp
        with_reducible rfl
      rotate_left
      · simp only [Act.put, List.setIfInBounds_toArray, List.set_cons_zero, List.set_cons_succ, i64_w, i32_w]
        rfl
      refine pure_ (i := 3) (N := some 37) (v := ?_) (a' := ?_) #[true, true, true, true, false, false, false, false, false, false, false, false, false] rfl rfl (by kernel_rfl) (fun _ _ _ h => h) (Or.inl ⟨by rfl, ?_⟩) ?_ ?_
      rotate_left
      · intro w'
        go_simp
        with_reducible rfl
      rotate_left
      · simp only [Act.put, List.setIfInBounds_toArray, List.set_cons_zero, List.set_cons_succ, i64_w, i32_w]
        rfl
      refine pure_ (i := 4) (N := some 38) (v := ?_) (a' := ?_) #[true, true, true, true, true, false, false, false, false, false, false, false, false] rfl rfl (by kernel_rfl) (fun _ _ _ h => h) (Or.inl ⟨by rfl, ?_⟩) ?_ ?_
      rotate_left
      · intro w'
        go_simp
        with_reducible rfl
      rotate_left
      · simp only [Act.put, List.setIfInBounds_toArray, List.set_cons_zero, List.set_cons_succ, i64_w, i32_w]
        rfl
      refine pure_ (i := 5) (N := some 39) (v := ?_) (a' := ?_) #[true, true, true, true, true, true, false, false, false, false, false, false, false] rfl rfl (by kernel_rfl) (fun _ _ _ h => h) (Or.inl ⟨by rfl, ?_⟩) ?_ ?_
      rotate_left
      · intro w'
        go_simp
        with_reducible rfl
      rotate_left
      · simp only [Act.put, List.setIfInBounds_toArray, List.set_cons_zero, List.set_cons_succ, i64_w, i32_w]
        rfl
      refine take_ (i := 6) (N := some 40) (v := ?_) (a' := ?_) #[true, true, true, true, true, true, true, false, false, false, false, false, false] rfl rfl (by kernel_rfl) (fun _ _ _ h => h) (Or.inl ⟨by rfl, ?_⟩) hHeld ?_ ?_
      rotate_left
      · rintro w' ⟨s0, s1⟩
        go_simp
        with_reducible rfl
      rotate_left
      · simp only [Act.put, List.setIfInBounds_toArray, List.set_cons_zero, List.set_cons_succ, i64_w, i32_w]
        rfl
      refine pure_ (i := 7) (N := some 41) (v := ?_) (a' := ?_) #[true, true, true, true, true, true, true, true, false, false, false, false, false] rfl rfl (by kernel_rfl) (fun _ _ _ h => h) (Or.inl ⟨by rfl, ?_⟩) ?_ ?_
      rotate_left
      · intro w'
        go_simp
        with_reducible rfl
      rotate_left
      · simp only [Act.put, List.setIfInBounds_toArray, List.set_cons_zero, List.set_cons_succ, i64_w, i32_w]
        rfl
      refine pure_ (i := 8) (N := some 42) (v := ?_) (a' := ?_) #[true, true, true, true, true, true, true, true, true, false, false, false, false] rfl rfl (by kernel_rfl) (fun _ _ _ h => h) (Or.inl ⟨by rfl, ?_⟩) ?_ ?_
      rotate_left
      · intro w'
        go_simp
        with_reducible rfl
      rotate_left
      · simp only [Act.put, List.setIfInBounds_toArray, List.set_cons_zero, List.set_cons_succ, i64_w, i32_w]
        rfl
      refine take_ (i := 9) (N := some 43) (v := ?_) (a' := ?_) #[true, true, true, true, true, true, true, true, true, true, false, false, false] rfl rfl (by kernel_rfl) (fun _ _ _ h => h) (Or.inl ⟨by rfl, ?_⟩) hHeld ?_ ?_
      rotate_left
      · rintro w' ⟨s0, s1⟩
        go_simp
        with_reducible rfl
      rotate_left
      · simp only [Act.put, List.setIfInBounds_toArray, List.set_cons_zero, List.set_cons_succ, i64_w, i32_w]
        rfl
      refine pure_ (i := 10) (N := some 44) (v := ?_) (a' := ?_) #[true, true, true, true, true, true, true, true, true, true, true, false, false] rfl rfl (by kernel_rfl) (fun _ _ _ h => h) (Or.inl ⟨by rfl, ?_⟩) ?_ ?_
      rotate_left
      · intro w'
        go_simp
        with_reducible rfl
      rotate_left
      · simp only [Act.put, List.setIfInBounds_toArray, List.set_cons_zero, List.set_cons_succ, i64_w, i32_w]
        rfl
      refine pure_ (i := 11) (N := some 45) (v := ?_) (a' := ?_) #[true, true, true, true, true, true, true, true, true, true, true, true, false] rfl rfl (by kernel_rfl) (fun _ _ _ h => h) (Or.inl ⟨by rfl, ?_⟩) ?_ ?_
      rotate_left
      · intro w'
        go_simp
        with_reducible rfl
      rotate_left
      · simp only [Act.put, List.setIfInBounds_toArray, List.set_cons_zero, List.set_cons_succ, i64_w, i32_w]
        rfl
      refine last_ (i := 12) (N := none) #[true, true, true, true, true, true, true, true, true, true, true, true, true] rfl rfl (by kernel_rfl) (by decide) (fun K hK => ?_)
      have z0 := e1
      have z1 := HFR.out
      refine skip_ (w1 := ?_) (by rfl) rfl ?_ ?_
      rotate_left
      · go_simp
        rfl
      refine hK.out _ _ ?_
      clear hK K
      refine done_ (by kernel_rfl) ?_
      go_wp2
      go_roundw
      case measure => simp [intOf]; omega
      case rel =>
        refine ⟨k + 1, by omega, by go_num, ?_⟩
        rw [show wrap64 (z + 5) = z + 5 from Go.IntWalk.wrap64_in _ (by omega)]
        exact ⟨by rw [← HSU.out]; exact HPUT.out, HBL.out⟩
    · obtain rfl : k = sy'.length := by omega
      have Hb6 := Aside0.mk (show WBx _ gb Ab cb sy'.length (sy'.map (· + 5)) Db db Ry.length Ry Eb eb Ry.length wy from by have h := HL.out.1.wbx; rw [shTo_all] at h; exact h)
      have HB6 := Aside0.mk (below_then HB3.out HB3.out.size HL.out.2)
      clear s0
      have Ha6 := Aside0.mk (Ha3.out.step HL.out.2)
      have ya0_6 : World.cell? _ ⟨ga, 0, none⟩ = some (.slice Aa sx'.length ca) := (blk3_c Ha6.out.blk).1
      have ya1_6 : World.cell? _ ⟨ga, 1, none⟩ = some (.slice Da 0 da) := (blk3_c Ha6.out.blk).2.1
      have ya2_6 : World.cell? _ ⟨ga, 2, none⟩ = some (.slice Ea 0 ea) := (blk3_c Ha6.out.blk).2.2
      have yb0_6 : World.cell? _ ⟨gb, 0, none⟩ = some (.slice Ab sy'.length cb) := (blk3_c Hb6.out.blk).1
      have yb1_6 : World.cell? _ ⟨gb, 1, none⟩ = some (.slice Db Ry.length db) := (blk3_c Hb6.out.blk).2.1
      have yb2_6 : World.cell? _ ⟨gb, 2, none⟩ = some (.slice Eb Ry.length eb) := (blk3_c Hb6.out.blk).2.2
      go_upto_region 9 with (go_at_call 15; refine (times_is (p' := 0) Ha6.out HFx.out.2.rt (few_inW HFx.out.1) Hb6.out HGm.out.rt (few_inW HG.out) (by have := HFx.out.2.s; omega) (by rw [List.length_map]; omega) 1000 (HT.out.step HB6.out) HP.out.1 rfl HP.out.2.2.2.2.1 HP.out.2.2.2.2.2).mono ?_; rintro e w7 ⟨Ap, cp, Dp, dp, Ep, ep, rfl, hM, hb⟩; have hx := below_box hb (.cells #[.slice Ap P.sc.length cp, .slice Dp 0 dp, .slice Ep 0 ep] 37); have HB7 := Aside0.mk (below_then HB6.out HB6.out.size hx); have Ha7 := Aside0.mk (Ha6.out.step hx); have Hb7 := Aside0.mk (Hb6.out.step hx); have Hp7 := Aside0.mk (WBx.new hM.rd rfl HP.out.2.2.2.2.1 HP.out.2.2.2.2.2); have ya0_7 : World.cell? _ ⟨ga, 0, none⟩ = some (.slice Aa sx'.length ca) := (blk3_c Ha7.out.blk).1; have ya1_7 : World.cell? _ ⟨ga, 1, none⟩ = some (.slice Da 0 da) := (blk3_c Ha7.out.blk).2.1; have ya2_7 : World.cell? _ ⟨ga, 2, none⟩ = some (.slice Ea 0 ea) := (blk3_c Ha7.out.blk).2.2; have yb0_7 : World.cell? _ ⟨gb, 0, none⟩ = some (.slice Ab sy'.length cb) := (blk3_c Hb7.out.blk).1; have yb1_7 : World.cell? _ ⟨gb, 1, none⟩ = some (.slice Db Ry.length db) := (blk3_c Hb7.out.blk).2.1; have yb2_7 : World.cell? _ ⟨gb, 2, none⟩ = some (.slice Eb Ry.length eb) := (blk3_c Hb7.out.blk).2.2; have yp0_7 : World.cell? _ ⟨w7.heap.size, 0, none⟩ = some (.slice Ap P.sc.length cp) := (blk3_c Hp7.out.blk).1; have yp1_7 : World.cell? _ ⟨w7.heap.size, 1, none⟩ = some (.slice Dp 0 dp) := (blk3_c Hp7.out.blk).2.1; have yp2_7 : World.cell? _ ⟨w7.heap.size, 2, none⟩ = some (.slice Ep 0 ep) := (blk3_c Hp7.out.blk).2.2; clear hM hb hx ya0_6 ya1_6 ya2_6 yb0_6 yb1_6 yb2_6)
      go_upto_region 10 with (go_at_call 25; refine (sum_nothing (ws0 Hp7.out.rd HP.out.2.2.2.2.1 HP.out.2.2.2.2.2) rfl HP.out.2.1 HP.out.2.2.1).mono ?_; rintro e w8 ⟨As, cs, Ds, ds, Es, es, rfl, hM, hb⟩; have hx := below_box hb (.cells #[.slice As 0 cs, .slice Ds 0 ds, .slice Es 0 es] 37); have HB8 := Aside0.mk (below_then HB7.out HB7.out.size hx); have Ha8 := Aside0.mk (Ha7.out.step hx); have Hb8 := Aside0.mk (Hb7.out.step hx); have Hs8 := Aside0.mk (WBx.new hM.rd rfl rfl rfl); have ya0_8 : World.cell? _ ⟨ga, 0, none⟩ = some (.slice Aa sx'.length ca) := (blk3_c Ha8.out.blk).1; have ya1_8 : World.cell? _ ⟨ga, 1, none⟩ = some (.slice Da 0 da) := (blk3_c Ha8.out.blk).2.1; have ya2_8 : World.cell? _ ⟨ga, 2, none⟩ = some (.slice Ea 0 ea) := (blk3_c Ha8.out.blk).2.2; have yb0_8 : World.cell? _ ⟨gb, 0, none⟩ = some (.slice Ab sy'.length cb) := (blk3_c Hb8.out.blk).1; have yb1_8 : World.cell? _ ⟨gb, 1, none⟩ = some (.slice Db Ry.length db) := (blk3_c Hb8.out.blk).2.1; have yb2_8 : World.cell? _ ⟨gb, 2, none⟩ = some (.slice Eb Ry.length eb) := (blk3_c Hb8.out.blk).2.2; have ys0_8 : World.cell? _ ⟨w8.heap.size, 0, none⟩ = some (.slice As 0 cs) := (blk3_c Hs8.out.blk).1; have ys1_8 : World.cell? _ ⟨w8.heap.size, 1, none⟩ = some (.slice Ds 0 ds) := (blk3_c Hs8.out.blk).2.1; have ys2_8 : World.cell? _ ⟨w8.heap.size, 2, none⟩ = some (.slice Es 0 es) := (blk3_c Hs8.out.blk).2.2; clear hM hb hx ya0_7 ya1_7 ya2_7 yb0_7 yb1_7 yb2_7 yp0_7 yp1_7 yp2_7)
      go_upto_region 11 with (go_at_call 25; refine (sum_nothing Ha8.out.rd rfl HFx.out.1.r.1.1 (by have := HFx.out.2.s; omega)).mono ?_; rintro e w9 ⟨Aq, cq, Dq, dq, Eq, eq, rfl, hM, hb⟩; have hx := below_box hb (.cells #[.slice Aq 0 cq, .slice Dq 0 dq, .slice Eq 0 eq] 37); have HB9 := Aside0.mk (below_then HB8.out HB8.out.size hx); have Hb9 := Aside0.mk (Hb8.out.step hx); have Hs9 := Aside0.mk (Hs8.out.step hx); have Hq9 := Aside0.mk (WBx.new hM.rd rfl rfl rfl); have yb0_9 : World.cell? _ ⟨gb, 0, none⟩ = some (.slice Ab sy'.length cb) := (blk3_c Hb9.out.blk).1; have yb1_9 : World.cell? _ ⟨gb, 1, none⟩ = some (.slice Db Ry.length db) := (blk3_c Hb9.out.blk).2.1; have yb2_9 : World.cell? _ ⟨gb, 2, none⟩ = some (.slice Eb Ry.length eb) := (blk3_c Hb9.out.blk).2.2; have ys0_9 : World.cell? _ ⟨w8.heap.size, 0, none⟩ = some (.slice As 0 cs) := (blk3_c Hs9.out.blk).1; have ys1_9 : World.cell? _ ⟨w8.heap.size, 1, none⟩ = some (.slice Ds 0 ds) := (blk3_c Hs9.out.blk).2.1; have ys2_9 : World.cell? _ ⟨w8.heap.size, 2, none⟩ = some (.slice Es 0 es) := (blk3_c Hs9.out.blk).2.2; have yq0_9 : World.cell? _ ⟨w9.heap.size, 0, none⟩ = some (.slice Aq 0 cq) := (blk3_c Hq9.out.blk).1; have yq1_9 : World.cell? _ ⟨w9.heap.size, 1, none⟩ = some (.slice Dq 0 dq) := (blk3_c Hq9.out.blk).2.1; have yq2_9 : World.cell? _ ⟨w9.heap.size, 2, none⟩ = some (.slice Eq 0 eq) := (blk3_c Hq9.out.blk).2.2; clear hM hb hx ya0_8 ya1_8 ya2_8 yb0_8 yb1_8 yb2_8 ys0_8 ys1_8 ys2_8)
      go_upto_region 12 with (go_at_call 25; refine (sum_some Hb9.out.rd (List.length_map ..) rfl HG.out.l HG.out.r.1.1 (by rw [List.length_map]; omega) HG.out.l (by have := HFy.out.2.l; omega) HNy.out (few_tot HG.out) HXY.out.2.1).mono ?_; rintro e w10 ⟨Ar, cr, Dr, dr, Er, er, rfl, hM, hb⟩; have hx := below_box hb (.cells #[.slice Ar 0 cr, .slice Dr 1 dr, .slice Er 1 er] 37); have HB10 := Aside0.mk (below_then HB9.out HB9.out.size hx); have Hs10 := Aside0.mk (Hs9.out.step hx); have Hq10 := Aside0.mk (Hq9.out.step hx); have Hr10 := Aside0.mk (WBx.new hM.rd rfl rfl rfl); have ys0_10 : World.cell? _ ⟨w8.heap.size, 0, none⟩ = some (.slice As 0 cs) := (blk3_c Hs10.out.blk).1; have ys1_10 : World.cell? _ ⟨w8.heap.size, 1, none⟩ = some (.slice Ds 0 ds) := (blk3_c Hs10.out.blk).2.1; have ys2_10 : World.cell? _ ⟨w8.heap.size, 2, none⟩ = some (.slice Es 0 es) := (blk3_c Hs10.out.blk).2.2; have yq0_10 : World.cell? _ ⟨w9.heap.size, 0, none⟩ = some (.slice Aq 0 cq) := (blk3_c Hq10.out.blk).1; have yq1_10 : World.cell? _ ⟨w9.heap.size, 1, none⟩ = some (.slice Dq 0 dq) := (blk3_c Hq10.out.blk).2.1; have yq2_10 : World.cell? _ ⟨w9.heap.size, 2, none⟩ = some (.slice Eq 0 eq) := (blk3_c Hq10.out.blk).2.2; have yr0_10 : World.cell? _ ⟨w10.heap.size, 0, none⟩ = some (.slice Ar 0 cr) := (blk3_c Hr10.out.blk).1; have yr1_10 : World.cell? _ ⟨w10.heap.size, 1, none⟩ = some (.slice Dr 1 dr) := (blk3_c Hr10.out.blk).2.1; have yr2_10 : World.cell? _ ⟨w10.heap.size, 2, none⟩ = some (.slice Er 1 er) := (blk3_c Hr10.out.blk).2.2; clear hM hb hx yb0_9 yb1_9 yb2_9 ys0_9 ys1_9 ys2_9 yq0_9 yq1_9 yq2_9)
      go_upto_region 13 with (go_at_call 15; refine (times_is (p' := 0) Hq10.out none_rt inW_nil Hr10.out rt_unit (inW_one (by have h := HXY.out.2.2.2.1; omega)) (by simp) (by simp) 1 (HT.out.step HB10.out) (edge_nil_l fTimes _ _) rfl rfl rfl).mono ?_; rintro e w11 ⟨At, ct, Dt, dt, Et, et, rfl, hM, hb⟩; have hx := below_box hb (.cells #[.slice At 0 ct, .slice Dt 0 dt, .slice Et 0 et] 37); have HB11 := Aside0.mk (below_then HB10.out HB10.out.size hx); have Hs11 := Aside0.mk (Hs10.out.step hx); have Ht11 := Aside0.mk (WBx.new hM.rd rfl rfl rfl); have ys0_11 : World.cell? _ ⟨w8.heap.size, 0, none⟩ = some (.slice As 0 cs) := (blk3_c Hs11.out.blk).1; have ys1_11 : World.cell? _ ⟨w8.heap.size, 1, none⟩ = some (.slice Ds 0 ds) := (blk3_c Hs11.out.blk).2.1; have ys2_11 : World.cell? _ ⟨w8.heap.size, 2, none⟩ = some (.slice Es 0 es) := (blk3_c Hs11.out.blk).2.2; have yt0_11 : World.cell? _ ⟨w11.heap.size, 0, none⟩ = some (.slice At 0 ct) := (blk3_c Ht11.out.blk).1; have yt1_11 : World.cell? _ ⟨w11.heap.size, 1, none⟩ = some (.slice Dt 0 dt) := (blk3_c Ht11.out.blk).2.1; have yt2_11 : World.cell? _ ⟨w11.heap.size, 2, none⟩ = some (.slice Et 0 et) := (blk3_c Ht11.out.blk).2.2; clear hM hb hx ys0_10 ys1_10 ys2_10 yq0_10 yq1_10 yq2_10 yr0_10 yr1_10 yr2_10)
      go_upto_region 15 with fail
      go_quiet (fail)
      go_wp2
      go_ret
      exact ⟨rfl, below_then HB11.out HB11.out.size (pw_below_drewN (Below.refl _ _) _)⟩
set_option maxHeartbeats 8000000 in
set_option maxRecDepth 100000 in
theorem weighparts_ne (A0 : Option Addr) (c0 : Nat) (sx : List Int) (B0 : Option Addr) (d0 : Nat) (rx : List (List Int)) (E0 : Option Addr) (e0 : Nat) (ax : List Int) (F0 : Option Addr) (n0 f0 : Nat) (A1 : Option Addr) (c1 : Nat) (sy : List Int) (B1 : Option Addr) (d1 : Nat) (ry : List (List Int)) (E1 : Option Addr) (e1 : Nat) (ay : List Int) (F1 : Option Addr) (n1 f1 : Nat) (w : World) (hr0 : RelRd w A0 c0 sx B0 d0 rx) (ha0 : Kd.C KI w E0 ax.length ax) (hn0 : n0 ≤ 9223372036854775807) (hr1 : RelRd w A1 c1 sy B1 d1 ry) (ha1 : Kd.C KI w E1 ay.length ay) (hn1 : n1 ≤ 9223372036854775807) (htab : Tab w) (hx0 : ∀ s R, smallS3 sx = s → smallRows3 s.length rx = R → R ≠ []) (hy0 : ∀ s R, smallS3 sy = s → smallRows3 s.length ry = R → R = []) :
    Calls Tryz.prog 6 #[.agg #[.slice A0 sx.length c0, .slice B0 rx.length d0, .slice E0 ax.length e0, .slice F0 n0 f0], .agg #[.slice A1 sy.length c1, .slice B1 ry.length d1, .slice E1 ay.length e1, .slice F1 n1 f1]] w fun e w' => e = .returned (.bool true) ∧ Below w.heap.size w w' := by
  have HT := Aside0.mk htab
  clear htab
  obtain ⟨sx', hs⟩ : ∃ s, smallS3 sx = s := ⟨_, rfl⟩
  obtain ⟨Rx, hR⟩ : ∃ R, smallRows3 sx'.length rx = R := ⟨_, rfl⟩
  obtain ⟨wx, hw⟩ : ∃ ws, (List.range Rx.length).map (refV 999 ax) = ws := ⟨_, rfl⟩
  have HFx := Aside0.mk (few4_of (by decide) (by decide) hs hR hw)
  have HEx := Aside0.mk (And.intro hs (And.intro hR hw))
  have hRlx : Rx.length ≤ 12 := HFx.out.2.l
  clear hs hR hw
  obtain ⟨sy', hs⟩ : ∃ s, smallS3 sy = s := ⟨_, rfl⟩
  obtain ⟨Ry, hR⟩ : ∃ R, smallRows3 sy'.length ry = R := ⟨_, rfl⟩
  obtain ⟨wy, hw⟩ : ∃ ws, (List.range Ry.length).map (refV 999 ay) = ws := ⟨_, rfl⟩
  have HFy := Aside0.mk (few4_of (by decide) (by decide) hs hR hw)
  have HEy := Aside0.mk (And.intro hs (And.intro hR hw))
  have hRly : Ry.length ≤ 12 := HFy.out.2.l
  clear hs hR hw
  have hNx : Rx ≠ [] := hx0 _ _ HEx.out.1 HEx.out.2.1
  have HNx := Aside0.mk hNx
  have HNwx := Aside0.mk (show wx ≠ [] from fun e => hNx (List.length_eq_zero_iff.1 (by rw [← HFx.out.1.l, e]; rfl)))
  clear hx0 hNx
  obtain rfl : Ry = [] := hy0 _ _ HEy.out.1 HEy.out.2.1
  obtain rfl : wy = [] := List.length_eq_zero_iff.1 (by rw [HFy.out.1.l]; rfl)
  clear hy0
  have HG := Aside0.mk (shift_few HFy.out.1)
  have HGm := Aside0.mk (shift_rt HFy.out.2)
  have HD := Aside0.mk (show ∀ v ∈ sx', v ∉ sy'.map (· + 5) from by rw [← HEx.out.1, ← HEy.out.1]; exact shift_apart)
  have HPS := Aside0.mk (show ∀ v ∈ sy', 0 ≤ v ∧ v < 5 from by rw [← HEy.out.1]; exact smallS3_pos sy)
  have hsl : sy'.length ≤ 3 := HFy.out.2.s
  obtain ⟨P, hP1, hP2, hP3, hP4, hP5, hP6, hP7, hP8⟩ := parts_times HFx.out.1 HG.out HD.out
  obtain ⟨X, hX⟩ : ∃ X, wx.sum = X := ⟨_, rfl⟩
  obtain ⟨Y, hY⟩ : ∃ Y, ([] : List Int).sum = Y := ⟨_, rfl⟩
  have hx1 := few_sum HFx.out.1
  have hy1 := few_sum HG.out
  have hxy := few_prod HFx.out.1 HG.out
  simp only [hX, hY] at hx1 hy1 hxy hP6
  have HXY := Aside0.mk (And.intro hX (And.intro hY (And.intro hx1 (And.intro hy1 hxy))))
  have hsc : P.sc.length ≤ 1000000 := by rw [hP2]; have h := merge_len true true true sx' (sy'.map (· + 5)); have h2 := HFx.out.2.s; rw [List.length_map] at h; show (merge true true true sx' (sy'.map (· + 5))).length ≤ _; omega
  have hPL : P.L.length = 0 := by rw [hP5]; simp
  have HP := Aside0.mk (And.intro hP1 (And.intro hP3.1.1 (And.intro hsc (And.intro hP4 (And.intro hPL (hP4.trans hPL))))))
  clear hP1 hP2 hP3 hP4 hP5 hP6 hP7 hP8 hX hY hx1 hy1 hxy hsc hPL
  obtain ⟨W0, hW0⟩ : ∃ W0, (w.alloc (.cells #[.slice A0 sx.length c0, .slice B0 rx.length d0, .slice E0 ax.length e0, .slice F0 n0 f0] 26)).alloc (.cells #[.slice A1 sy.length c1, .slice B1 ry.length d1, .slice E1 ay.length e1, .slice F1 n1 f1] 26) = W0 := ⟨_, rfl⟩
  have HB0 := Aside0.mk (show Below w.heap.size w W0 from by rw [← hW0]; exact below_alloc (below_alloc (Below.refl _ _) _) _)
  have Hx0 := Aside0.mk (show P4Bx W0 w.heap.size A0 c0 sx B0 d0 rx E0 e0 ax F0 n0 f0 from ⟨by rw [← hW0]; exact blk_two1 _ _ _, hr0.step HB0.out, Kd.C_below ha0 HB0.out⟩)
  have Hy0 := Aside0.mk (show P4Bx W0 (w.heap.size + 1) A1 c1 sy B1 d1 ry E1 e1 ay F1 n1 f1 from ⟨by rw [← hW0]; exact blk_two2 _ _ _, hr1.step HB0.out, Kd.C_below ha1 HB0.out⟩)
  clear hr0 ha0 hr1 ha1
  have yx0_0 : World.cell? _ ⟨w.heap.size, 0, none⟩ = some (.slice A0 sx.length c0) := (blk4_c Hx0.out.blk).1
  have yx1_0 : World.cell? _ ⟨w.heap.size, 1, none⟩ = some (.slice B0 rx.length d0) := (blk4_c Hx0.out.blk).2.1
  have yx2_0 : World.cell? _ ⟨w.heap.size, 2, none⟩ = some (.slice E0 ax.length e0) := (blk4_c Hx0.out.blk).2.2.1
  have yx3_0 : World.cell? _ ⟨w.heap.size, 3, none⟩ = some (.slice F0 n0 f0) := (blk4_c Hx0.out.blk).2.2.2
  have yy0_0 : World.cell? _ ⟨w.heap.size + 1, 0, none⟩ = some (.slice A1 sy.length c1) := (blk4_c Hy0.out.blk).1
  have yy1_0 : World.cell? _ ⟨w.heap.size + 1, 1, none⟩ = some (.slice B1 ry.length d1) := (blk4_c Hy0.out.blk).2.1
  have yy2_0 : World.cell? _ ⟨w.heap.size + 1, 2, none⟩ = some (.slice E1 ay.length e1) := (blk4_c Hy0.out.blk).2.2.1
  have yy3_0 : World.cell? _ ⟨w.heap.size + 1, 3, none⟩ = some (.slice F1 n1 f1) := (blk4_c Hy0.out.blk).2.2.2
  go_enter Tryz.func6, Tryz.ntmps6
  go_upto_region 2 with (go_at_call 12; refine (shown4_any _ (HT.out.step HB0.out)).mono ?_; rintro e w1 ⟨rfl, hb⟩; have HB1 := Aside0.mk (below_then HB0.out HB0.out.size hb); have Hx1 := Aside0.mk (Hx0.out.step hb); have Hy1 := Aside0.mk (Hy0.out.step hb); have yx0_1 : World.cell? _ ⟨w.heap.size, 0, none⟩ = some (.slice A0 sx.length c0) := (blk4_c Hx1.out.blk).1; have yx1_1 : World.cell? _ ⟨w.heap.size, 1, none⟩ = some (.slice B0 rx.length d0) := (blk4_c Hx1.out.blk).2.1; have yx2_1 : World.cell? _ ⟨w.heap.size, 2, none⟩ = some (.slice E0 ax.length e0) := (blk4_c Hx1.out.blk).2.2.1; have yx3_1 : World.cell? _ ⟨w.heap.size, 3, none⟩ = some (.slice F0 n0 f0) := (blk4_c Hx1.out.blk).2.2.2; have yy0_1 : World.cell? _ ⟨w.heap.size + 1, 0, none⟩ = some (.slice A1 sy.length c1) := (blk4_c Hy1.out.blk).1; have yy1_1 : World.cell? _ ⟨w.heap.size + 1, 1, none⟩ = some (.slice B1 ry.length d1) := (blk4_c Hy1.out.blk).2.1; have yy2_1 : World.cell? _ ⟨w.heap.size + 1, 2, none⟩ = some (.slice E1 ay.length e1) := (blk4_c Hy1.out.blk).2.2.1; have yy3_1 : World.cell? _ ⟨w.heap.size + 1, 3, none⟩ = some (.slice F1 n1 f1) := (blk4_c Hy1.out.blk).2.2.2; clear hb yx0_0 yx1_0 yx2_0 yx3_0 yy0_0 yy1_0 yy2_0 yy3_0)
  clear hW0
  go_upto_region 3 with (first
      | (have hgd := HB2; clear hgd; go_at_call 16; refine (number_is (n' := Rx.length) Hrr2.out rfl rfl Hdd2.out (by omega) HEx.out.2.2).mono ?_; rintro e w3 ⟨Ea, ea, rfl, hM, hb⟩; have hx := below_box hb (.cells #[.slice Aa sx'.length ca, .slice Da Rx.length da, .slice Ea Rx.length ea] 37); have HB3 := Aside0.mk (below_then HB2.out HB2.out.size hx); have Hy3 := Aside0.mk (Hy2.out.step hx); have Ha3 := Aside0.mk (WBx.new (n' := Rx.length) (m := Rx.length) hM rfl rfl (HFx.out.1.l)); have yy0_3 : World.cell? _ ⟨w.heap.size + 1, 0, none⟩ = some (.slice A1 sy.length c1) := (blk4_c Hy3.out.blk).1; have yy1_3 : World.cell? _ ⟨w.heap.size + 1, 1, none⟩ = some (.slice B1 ry.length d1) := (blk4_c Hy3.out.blk).2.1; have yy2_3 : World.cell? _ ⟨w.heap.size + 1, 2, none⟩ = some (.slice E1 ay.length e1) := (blk4_c Hy3.out.blk).2.2.1; have yy3_3 : World.cell? _ ⟨w.heap.size + 1, 3, none⟩ = some (.slice F1 n1 f1) := (blk4_c Hy3.out.blk).2.2.2; have ya0_3 : World.cell? _ ⟨w3.heap.size, 0, none⟩ = some (.slice Aa sx'.length ca) := (blk3_c Ha3.out.blk).1; have ya1_3 : World.cell? _ ⟨w3.heap.size, 1, none⟩ = some (.slice Da Rx.length da) := (blk3_c Ha3.out.blk).2.1; have ya2_3 : World.cell? _ ⟨w3.heap.size, 2, none⟩ = some (.slice Ea Rx.length ea) := (blk3_c Ha3.out.blk).2.2; clear hM hb hx yy0_2 yy1_2 yy2_2 yy3_2)
      | (go_at_call 14; refine (ref_is (n' := Rx.length) Hx1.out 999 (by decide) (by decide) hn0 HEx.out.1 HEx.out.2.1 rfl rfl).mono ?_; rintro e w2 ⟨Aa, ca, Da, da, Er, er, rfl, hM, hD, hb⟩; have HB2 := Aside0.mk (below_then HB1.out HB1.out.size hb); have Hy2 := Aside0.mk (Hy1.out.step hb); have Hrr2 := Aside0.mk (hM); have Hdd2 := Aside0.mk (hD); have yy0_2 : World.cell? _ ⟨w.heap.size + 1, 0, none⟩ = some (.slice A1 sy.length c1) := (blk4_c Hy2.out.blk).1; have yy1_2 : World.cell? _ ⟨w.heap.size + 1, 1, none⟩ = some (.slice B1 ry.length d1) := (blk4_c Hy2.out.blk).2.1; have yy2_2 : World.cell? _ ⟨w.heap.size + 1, 2, none⟩ = some (.slice E1 ay.length e1) := (blk4_c Hy2.out.blk).2.2.1; have yy3_2 : World.cell? _ ⟨w.heap.size + 1, 3, none⟩ = some (.slice F1 n1 f1) := (blk4_c Hy2.out.blk).2.2.2; clear hM hD hb yx0_1 yx1_1 yx2_1 yx3_1 yy0_1 yy1_1 yy2_1 yy3_1))
  clear yy0_3 yy1_3 yy2_3 yy3_3 ya0_3 ya1_3 ya2_3
  generalize w3.alloc (.cells #[.slice Aa sx'.length ca, .slice Da Rx.length da, .slice Ea Rx.length ea] 37) = WA at HB3 Ha3 Hy3 ⊢
  generalize w3.heap.size = ga at Ha3 ⊢
  have yy0_3 : World.cell? _ ⟨w.heap.size + 1, 0, none⟩ = some (.slice A1 sy.length c1) := (blk4_c Hy3.out.blk).1
  have yy1_3 : World.cell? _ ⟨w.heap.size + 1, 1, none⟩ = some (.slice B1 ry.length d1) := (blk4_c Hy3.out.blk).2.1
  have yy2_3 : World.cell? _ ⟨w.heap.size + 1, 2, none⟩ = some (.slice E1 ay.length e1) := (blk4_c Hy3.out.blk).2.2.1
  have yy3_3 : World.cell? _ ⟨w.heap.size + 1, 3, none⟩ = some (.slice F1 n1 f1) := (blk4_c Hy3.out.blk).2.2.2
  have ya0_3 : World.cell? _ ⟨ga, 0, none⟩ = some (.slice Aa sx'.length ca) := (blk3_c Ha3.out.blk).1
  have ya1_3 : World.cell? _ ⟨ga, 1, none⟩ = some (.slice Da Rx.length da) := (blk3_c Ha3.out.blk).2.1
  have ya2_3 : World.cell? _ ⟨ga, 2, none⟩ = some (.slice Ea Rx.length ea) := (blk3_c Ha3.out.blk).2.2
  go_upto_block 0 with (first
      | (have hgd := HB4; clear hgd; go_at_call 16; refine (number_sh (n' := 0) Hrr4.out rfl rfl Hdd4.out (by omega) HEy.out.2.2).mono ?_; rintro e w5 ⟨Eb, eb, rfl, hM, hb⟩; have hx := below_box hb (.cells #[.slice Ab sy'.length cb, .slice Db 0 db, .slice Eb 0 eb] 37); have HQ2 := Aside0.mk (below_then HQ1.out HQ1.out.size hx); have HS0 := Aside0.mk hM; have ysb : World.cell? _ ⟨w5.heap.size, 0, none⟩ = some (.slice Ab sy'.length cb) := (blk3_c HS0.out.blk).1; have HB5 := Aside0.mk (below_then HB4.out HB4.out.size hx); have Ha5 := Aside0.mk (Ha4.out.step hx); have ya0_5 : World.cell? _ ⟨ga, 0, none⟩ = some (.slice Aa sx'.length ca) := (blk3_c Ha5.out.blk).1; have ya1_5 : World.cell? _ ⟨ga, 1, none⟩ = some (.slice Da Rx.length da) := (blk3_c Ha5.out.blk).2.1; have ya2_5 : World.cell? _ ⟨ga, 2, none⟩ = some (.slice Ea Rx.length ea) := (blk3_c Ha5.out.blk).2.2; clear hM hb hx ya0_4 ya1_4 ya2_4)
      | (go_at_call 14; refine (ref_sh (n' := 0) Hy3.out 999 (by decide) (by decide) hn1 HEy.out.1 HEy.out.2.1 rfl rfl).mono ?_; rintro e w4 ⟨Ab, cb, Db, db, Er, er, rfl, hM, hD, hb⟩; have HQ1 := Aside0.mk hb; have HB4 := Aside0.mk (below_then HB3.out HB3.out.size hb); have Ha4 := Aside0.mk (Ha3.out.step hb); have Hrr4 := Aside0.mk (hM); have Hdd4 := Aside0.mk (hD); have ya0_4 : World.cell? _ ⟨ga, 0, none⟩ = some (.slice Aa sx'.length ca) := (blk3_c Ha4.out.blk).1; have ya1_4 : World.cell? _ ⟨ga, 1, none⟩ = some (.slice Da Rx.length da) := (blk3_c Ha4.out.blk).2.1; have ya2_4 : World.cell? _ ⟨ga, 2, none⟩ = some (.slice Ea Rx.length ea) := (blk3_c Ha4.out.blk).2.2; clear hM hD hb yy0_3 yy1_3 yy2_3 yy3_3 ya0_3 ya1_3 ya2_3))
  go_wp2_with fail
  clear ysb ya0_5 ya1_5 ya2_5
  generalize w5.alloc (.cells #[.slice Ab sy'.length cb, .slice Db 0 db, .slice Eb 0 eb] 37) = WB at HB5 HQ2 HS0 Ha5 ⊢
  generalize w5.heap.size = gb at HS0 ⊢
  clear HQ1 HB5 Ha5
  go_loopw [8] (fun i W => ∃ k : Nat, k ≤ sy'.length ∧ i = .int .i64 k ∧ Aside0 (ShB W WA.heap.size gb Ab cb sy'.length (shTo sy' k) Db db 0 [] Eb eb 0 [] ∧ Below WA.heap.size WA W)) (fun i _ => sy'.length - (intOf i).toNat)
  case atStart => exact ⟨0, Nat.zero_le _, rfl, ⟨by rw [shTo_zero]; exact HS0.out, HQ2.out⟩⟩
  case round =>
    clear HS0 HQ2
    obtain ⟨k, hk, rfl, HL⟩ := hrel
    have s0 : World.cell? _ ⟨gb, 0, none⟩ = some (.slice Ab sy'.length cb) := (blk3_c HL.out.1.blk).1
    by_cases hlt : k < sy'.length
    · have hkl : (k : Int) < (sy'.length : Int) := by omega
      have hst := HL.out.1.step (below_drew (Below.refl wr.heap.size wr))
      have e0 : World.cell? _ ⟨gb, 0, none⟩ = some (.slice Ab sy'.length cb) := (blk3_c hst.blk).1
      obtain ⟨gs, hAs, hgs, e1, hfr, hput⟩ := hst.put hlt
      subst hAs
      obtain ⟨z, hz⟩ : ∃ z, rd sy' (k : Int) = z := ⟨_, rfl⟩
      have hzb := HPS.out z (by rw [← hz, rd_get _ _ hlt]; exact List.getElem_mem hlt)
      have hz0 := hzb.1
      have hz5 := hzb.2
      have HSU := Aside0.mk (show (shTo sy' k).set k (z + 5) = shTo sy' (k + 1) from by rw [← hz]; exact shTo_succ hlt)
      rw [shTo_rd hlt, hz] at e1
      have HPUT := Aside0.mk (hput (z + 5))
      have HFR := Aside0.mk hfr
      have HBL := Aside0.mk (((below_then HL.out.2 HL.out.2.size (below_drew (Below.refl wr.heap.size wr))).setCell (p := ⟨gs, k, none⟩) hgs (.int .i64 (z + 5))))
      clear hst hput hfr hz hzb
      go_upto_region 7 with fail
      clear s0
      refine start_ (n := 13) (S := fun w' => w'.cell? ⟨gb, 0, none⟩ = some (.slice (some ⟨gs, 0, none⟩) sy'.length cb) ∧ w'.cell? ⟨gs, k, none⟩ = some (.int .i64 z)) (ds := [12]) #[false, false, false, false, false, false, false, false, false, false, false, false, false] (by kernel_rfl) rfl rfl ⟨e0, e1⟩ (fun hHeld => ?_)
      generalize hD : wr.drew = w17 at *
      clear hD
      refine pure_ (i := 0) (N := some 34) (v := ?_) (a' := ?_) #[true, false, false, false, false, false, false, false, false, false, false, false, false] rfl rfl (by kernel_rfl) (fun _ _ _ h => h) (Or.inl ⟨by rfl, ?_⟩) ?_ ?_
      rotate_left
      · intro w'
        go_simp
        with_reducible rfl
      rotate_left
      · simp only [Act.put, List.setIfInBounds_toArray, List.set_cons_zero, List.set_cons_succ, i64_w, i32_w]
        rfl
      refine pure_ (i := 1) (N := some 35) (v := ?_) (a' := ?_) #[true, true, false, false, false, false, false, false, false, false, false, false, false] rfl rfl (by kernel_rfl) (fun _ _ _ h => h) (Or.inl ⟨by rfl, ?_⟩) ?_ ?_
      rotate_left
      · intro w'
        go_simp
        with_reducible rfl
      rotate_left
      · simp only [Act.put, List.setIfInBounds_toArray, List.set_cons_zero, List.set_cons_succ, i64_w, i32_w]
        rfl
      refine take_ (i := 2) (N := some 36) (v := ?_) (a' := ?_) #[true, true, true, false, false, false, false, false, false, false, false, false, false] rfl rfl (by kernel_rfl) (fun _ _ _ h => h) (Or.inl ⟨by rfl, ?_⟩) hHeld ?_ ?_
      rotate_left
      · rintro w' ⟨s0, s1⟩
        go_simp
        with_reducible rfl
      rotate_left
      · simp only [Act.put, List.setIfInBounds_toArray, List.set_cons_zero, List.set_cons_succ, i64_w, i32_w]
        rfl
      refine pure_ (i := 3) (N := some 37) (v := ?_) (a' := ?_) #[true, true, true, true, false, false, false, false, false, false, false, false, false] rfl rfl (by kernel_rfl) (fun _ _ _ h => h) (Or.inl ⟨by rfl, ?_⟩) ?_ ?_
      rotate_left
      · intro w'
        go_simp
        with_reducible rfl
      rotate_left
      · simp only [Act.put, List.setIfInBounds_toArray, List.set_cons_zero, List.set_cons_succ, i64_w, i32_w]
        rfl
      refine pure_ (i := 4) (N := some 38) (v := ?_) (a' := ?_) #[true, true, true, true, true, false, false, false, false, false, false, false, false] rfl rfl (by kernel_rfl) (fun _ _ _ h => h) (Or.inl ⟨by rfl, ?_⟩) ?_ ?_
      rotate_left
      · intro w'
        go_simp
        with_reducible rfl
      rotate_left
      · simp only [Act.put, List.setIfInBounds_toArray, List.set_cons_zero, List.set_cons_succ, i64_w, i32_w]
        rfl
      refine pure_ (i := 5) (N := some 39) (v := ?_) (a' := ?_) #[true, true, true, true, true, true, false, false, false, false, false, false, false] rfl rfl (by kernel_rfl) (fun _ _ _ h => h) (Or.inl ⟨by rfl, ?_⟩) ?_ ?_
      rotate_left
      · intro w'
        go_simp
        with_reducible rfl
      rotate_left
      · simp only [Act.put, List.setIfInBounds_toArray, List.set_cons_zero, List.set_cons_succ, i64_w, i32_w]
        rfl
      refine take_ (i := 6) (N := some 40) (v := ?_) (a' := ?_) #[true, true, true, true, true, true, true, false, false, false, false, false, false] rfl rfl (by kernel_rfl) (fun _ _ _ h => h) (Or.inl ⟨by rfl, ?_⟩) hHeld ?_ ?_
      rotate_left
      · rintro w' ⟨s0, s1⟩
        go_simp
        with_reducible rfl
      rotate_left
      · simp only [Act.put, List.setIfInBounds_toArray, List.set_cons_zero, List.set_cons_succ, i64_w, i32_w]
        rfl
      refine pure_ (i := 7) (N := some 41) (v := ?_) (a' := ?_) #[true, true, true, true, true, true, true, true, false, false, false, false, false] rfl rfl (by kernel_rfl) (fun _ _ _ h => h) (Or.inl ⟨by rfl, ?_⟩) ?_ ?_
      rotate_left
      · intro w'
        go_simp
        with_reducible rfl
      rotate_left
      · simp only [Act.put, List.setIfInBounds_toArray, List.set_cons_zero, List.set_cons_succ, i64_w, i32_w]
        rfl
      refine pure_ (i := 8) (N := some 42) (v := ?_) (a' := ?_) #[true, true, true, true, true, true, true, true, true, false, false, false, false] rfl rfl (by kernel_rfl) (fun _ _ _ h => h) (Or.inl ⟨by rfl, ?_⟩) ?_ ?_
      rotate_left
      · intro w'
        go_simp
        with_reducible rfl
      rotate_left
      · simp only [Act.put, List.setIfInBounds_toArray, List.set_cons_zero, List.set_cons_succ, i64_w, i32_w]
        rfl
      refine take_ (i := 9) (N := some 43) (v := ?_) (a' := ?_) #[true, true, true, true, true, true, true, true, true, true, false, false, false] rfl rfl (by kernel_rfl) (fun _ _ _ h => h) (Or.inl ⟨by rfl, ?_⟩) hHeld ?_ ?_
      rotate_left
      · rintro w' ⟨s0, s1⟩
        go_simp
        with_reducible rfl
      rotate_left
      · simp only [Act.put, List.setIfInBounds_toArray, List.set_cons_zero, List.set_cons_succ, i64_w, i32_w]
        rfl
      refine pure_ (i := 10) (N := some 44) (v := ?_) (a' := ?_) #[true, true, true, true, true, true, true, true, true, true, true, false, false] rfl rfl (by kernel_rfl) (fun _ _ _ h => h) (Or.inl ⟨by rfl, ?_⟩) ?_ ?_
      rotate_left
      · intro w'
        go_simp
        with_reducible rfl
      rotate_left
      · simp only [Act.put, List.setIfInBounds_toArray, List.set_cons_zero, List.set_cons_succ, i64_w, i32_w]
        rfl
      refine pure_ (i := 11) (N := some 45) (v := ?_) (a' := ?_) #[true, true, true, true, true, true, true, true, true, true, true, true, false] rfl rfl (by kernel_rfl) (fun _ _ _ h => h) (Or.inl ⟨by rfl, ?_⟩) ?_ ?_
      rotate_left
      · intro w'
        go_simp
        with_reducible rfl
      rotate_left
      · simp only [Act.put, List.setIfInBounds_toArray, List.set_cons_zero, List.set_cons_succ, i64_w, i32_w]
        rfl
      refine last_ (i := 12) (N := none) #[true, true, true, true, true, true, true, true, true, true, true, true, true] rfl rfl (by kernel_rfl) (by decide) (fun K hK => ?_)
      have z0 := e1
      have z1 := HFR.out
      refine skip_ (w1 := ?_) (by rfl) rfl ?_ ?_
      rotate_left
      · go_simp
        rfl
      refine hK.out _ _ ?_
      clear hK K
      refine done_ (by kernel_rfl) ?_
      go_wp2
      go_roundw
      case measure => simp [intOf]; omega
      case rel =>
        refine ⟨k + 1, by omega, by go_num, ?_⟩
        rw [show wrap64 (z + 5) = z + 5 from Go.IntWalk.wrap64_in _ (by omega)]
        exact ⟨by rw [← HSU.out]; exact HPUT.out, HBL.out⟩
    · obtain rfl : k = sy'.length := by omega
      have Hb6 := Aside0.mk (show WBx _ gb Ab cb sy'.length (sy'.map (· + 5)) Db db 0 [] Eb eb 0 [] from by have h := HL.out.1.wbx; rw [shTo_all] at h; exact h)
      have HB6 := Aside0.mk (below_then HB3.out HB3.out.size HL.out.2)
      clear s0
      have Ha6 := Aside0.mk (Ha3.out.step HL.out.2)
      have ya0_6 : World.cell? _ ⟨ga, 0, none⟩ = some (.slice Aa sx'.length ca) := (blk3_c Ha6.out.blk).1
      have ya1_6 : World.cell? _ ⟨ga, 1, none⟩ = some (.slice Da Rx.length da) := (blk3_c Ha6.out.blk).2.1
      have ya2_6 : World.cell? _ ⟨ga, 2, none⟩ = some (.slice Ea Rx.length ea) := (blk3_c Ha6.out.blk).2.2
      have yb0_6 : World.cell? _ ⟨gb, 0, none⟩ = some (.slice Ab sy'.length cb) := (blk3_c Hb6.out.blk).1
      have yb1_6 : World.cell? _ ⟨gb, 1, none⟩ = some (.slice Db 0 db) := (blk3_c Hb6.out.blk).2.1
      have yb2_6 : World.cell? _ ⟨gb, 2, none⟩ = some (.slice Eb 0 eb) := (blk3_c Hb6.out.blk).2.2
      go_upto_region 9 with (go_at_call 15; refine (times_is (p' := 0) Ha6.out HFx.out.2.rt (few_inW HFx.out.1) Hb6.out HGm.out.rt (few_inW HG.out) (by have := HFx.out.2.s; omega) (by rw [List.length_map]; omega) 1000 (HT.out.step HB6.out) HP.out.1 rfl HP.out.2.2.2.2.1 HP.out.2.2.2.2.2).mono ?_; rintro e w7 ⟨Ap, cp, Dp, dp, Ep, ep, rfl, hM, hb⟩; have hx := below_box hb (.cells #[.slice Ap P.sc.length cp, .slice Dp 0 dp, .slice Ep 0 ep] 37); have HB7 := Aside0.mk (below_then HB6.out HB6.out.size hx); have Ha7 := Aside0.mk (Ha6.out.step hx); have Hb7 := Aside0.mk (Hb6.out.step hx); have Hp7 := Aside0.mk (WBx.new hM.rd rfl HP.out.2.2.2.2.1 HP.out.2.2.2.2.2); have ya0_7 : World.cell? _ ⟨ga, 0, none⟩ = some (.slice Aa sx'.length ca) := (blk3_c Ha7.out.blk).1; have ya1_7 : World.cell? _ ⟨ga, 1, none⟩ = some (.slice Da Rx.length da) := (blk3_c Ha7.out.blk).2.1; have ya2_7 : World.cell? _ ⟨ga, 2, none⟩ = some (.slice Ea Rx.length ea) := (blk3_c Ha7.out.blk).2.2; have yb0_7 : World.cell? _ ⟨gb, 0, none⟩ = some (.slice Ab sy'.length cb) := (blk3_c Hb7.out.blk).1; have yb1_7 : World.cell? _ ⟨gb, 1, none⟩ = some (.slice Db 0 db) := (blk3_c Hb7.out.blk).2.1; have yb2_7 : World.cell? _ ⟨gb, 2, none⟩ = some (.slice Eb 0 eb) := (blk3_c Hb7.out.blk).2.2; have yp0_7 : World.cell? _ ⟨w7.heap.size, 0, none⟩ = some (.slice Ap P.sc.length cp) := (blk3_c Hp7.out.blk).1; have yp1_7 : World.cell? _ ⟨w7.heap.size, 1, none⟩ = some (.slice Dp 0 dp) := (blk3_c Hp7.out.blk).2.1; have yp2_7 : World.cell? _ ⟨w7.heap.size, 2, none⟩ = some (.slice Ep 0 ep) := (blk3_c Hp7.out.blk).2.2; clear hM hb hx ya0_6 ya1_6 ya2_6 yb0_6 yb1_6 yb2_6)
      go_upto_region 10 with (go_at_call 25; refine (sum_nothing (ws0 Hp7.out.rd HP.out.2.2.2.2.1 HP.out.2.2.2.2.2) rfl HP.out.2.1 HP.out.2.2.1).mono ?_; rintro e w8 ⟨As, cs, Ds, ds, Es, es, rfl, hM, hb⟩; have hx := below_box hb (.cells #[.slice As 0 cs, .slice Ds 0 ds, .slice Es 0 es] 37); have HB8 := Aside0.mk (below_then HB7.out HB7.out.size hx); have Ha8 := Aside0.mk (Ha7.out.step hx); have Hb8 := Aside0.mk (Hb7.out.step hx); have Hs8 := Aside0.mk (WBx.new hM.rd rfl rfl rfl); have ya0_8 : World.cell? _ ⟨ga, 0, none⟩ = some (.slice Aa sx'.length ca) := (blk3_c Ha8.out.blk).1; have ya1_8 : World.cell? _ ⟨ga, 1, none⟩ = some (.slice Da Rx.length da) := (blk3_c Ha8.out.blk).2.1; have ya2_8 : World.cell? _ ⟨ga, 2, none⟩ = some (.slice Ea Rx.length ea) := (blk3_c Ha8.out.blk).2.2; have yb0_8 : World.cell? _ ⟨gb, 0, none⟩ = some (.slice Ab sy'.length cb) := (blk3_c Hb8.out.blk).1; have yb1_8 : World.cell? _ ⟨gb, 1, none⟩ = some (.slice Db 0 db) := (blk3_c Hb8.out.blk).2.1; have yb2_8 : World.cell? _ ⟨gb, 2, none⟩ = some (.slice Eb 0 eb) := (blk3_c Hb8.out.blk).2.2; have ys0_8 : World.cell? _ ⟨w8.heap.size, 0, none⟩ = some (.slice As 0 cs) := (blk3_c Hs8.out.blk).1; have ys1_8 : World.cell? _ ⟨w8.heap.size, 1, none⟩ = some (.slice Ds 0 ds) := (blk3_c Hs8.out.blk).2.1; have ys2_8 : World.cell? _ ⟨w8.heap.size, 2, none⟩ = some (.slice Es 0 es) := (blk3_c Hs8.out.blk).2.2; clear hM hb hx ya0_7 ya1_7 ya2_7 yb0_7 yb1_7 yb2_7 yp0_7 yp1_7 yp2_7)
      go_upto_region 11 with (go_at_call 25; refine (sum_some Ha8.out.rd rfl rfl HFx.out.1.l HFx.out.1.r.1.1 (by have := HFx.out.2.s; omega) HFx.out.1.l (by have := HFx.out.2.l; omega) HNx.out (few_tot HFx.out.1) HXY.out.1).mono ?_; rintro e w9 ⟨Aq, cq, Dq, dq, Eq, eq, rfl, hM, hb⟩; have hx := below_box hb (.cells #[.slice Aq 0 cq, .slice Dq 1 dq, .slice Eq 1 eq] 37); have HB9 := Aside0.mk (below_then HB8.out HB8.out.size hx); have Hb9 := Aside0.mk (Hb8.out.step hx); have Hs9 := Aside0.mk (Hs8.out.step hx); have Hq9 := Aside0.mk (WBx.new hM.rd rfl rfl rfl); have yb0_9 : World.cell? _ ⟨gb, 0, none⟩ = some (.slice Ab sy'.length cb) := (blk3_c Hb9.out.blk).1; have yb1_9 : World.cell? _ ⟨gb, 1, none⟩ = some (.slice Db 0 db) := (blk3_c Hb9.out.blk).2.1; have yb2_9 : World.cell? _ ⟨gb, 2, none⟩ = some (.slice Eb 0 eb) := (blk3_c Hb9.out.blk).2.2; have ys0_9 : World.cell? _ ⟨w8.heap.size, 0, none⟩ = some (.slice As 0 cs) := (blk3_c Hs9.out.blk).1; have ys1_9 : World.cell? _ ⟨w8.heap.size, 1, none⟩ = some (.slice Ds 0 ds) := (blk3_c Hs9.out.blk).2.1; have ys2_9 : World.cell? _ ⟨w8.heap.size, 2, none⟩ = some (.slice Es 0 es) := (blk3_c Hs9.out.blk).2.2; have yq0_9 : World.cell? _ ⟨w9.heap.size, 0, none⟩ = some (.slice Aq 0 cq) := (blk3_c Hq9.out.blk).1; have yq1_9 : World.cell? _ ⟨w9.heap.size, 1, none⟩ = some (.slice Dq 1 dq) := (blk3_c Hq9.out.blk).2.1; have yq2_9 : World.cell? _ ⟨w9.heap.size, 2, none⟩ = some (.slice Eq 1 eq) := (blk3_c Hq9.out.blk).2.2; clear hM hb hx ya0_8 ya1_8 ya2_8 yb0_8 yb1_8 yb2_8 ys0_8 ys1_8 ys2_8)
      go_upto_region 12 with (go_at_call 25; refine (sum_nothing Hb9.out.rd (List.length_map ..) HG.out.r.1.1 (by rw [List.length_map]; omega)).mono ?_; rintro e w10 ⟨Ar, cr, Dr, dr, Er, er, rfl, hM, hb⟩; have hx := below_box hb (.cells #[.slice Ar 0 cr, .slice Dr 0 dr, .slice Er 0 er] 37); have HB10 := Aside0.mk (below_then HB9.out HB9.out.size hx); have Hs10 := Aside0.mk (Hs9.out.step hx); have Hq10 := Aside0.mk (Hq9.out.step hx); have Hr10 := Aside0.mk (WBx.new hM.rd rfl rfl rfl); have ys0_10 : World.cell? _ ⟨w8.heap.size, 0, none⟩ = some (.slice As 0 cs) := (blk3_c Hs10.out.blk).1; have ys1_10 : World.cell? _ ⟨w8.heap.size, 1, none⟩ = some (.slice Ds 0 ds) := (blk3_c Hs10.out.blk).2.1; have ys2_10 : World.cell? _ ⟨w8.heap.size, 2, none⟩ = some (.slice Es 0 es) := (blk3_c Hs10.out.blk).2.2; have yq0_10 : World.cell? _ ⟨w9.heap.size, 0, none⟩ = some (.slice Aq 0 cq) := (blk3_c Hq10.out.blk).1; have yq1_10 : World.cell? _ ⟨w9.heap.size, 1, none⟩ = some (.slice Dq 1 dq) := (blk3_c Hq10.out.blk).2.1; have yq2_10 : World.cell? _ ⟨w9.heap.size, 2, none⟩ = some (.slice Eq 1 eq) := (blk3_c Hq10.out.blk).2.2; have yr0_10 : World.cell? _ ⟨w10.heap.size, 0, none⟩ = some (.slice Ar 0 cr) := (blk3_c Hr10.out.blk).1; have yr1_10 : World.cell? _ ⟨w10.heap.size, 1, none⟩ = some (.slice Dr 0 dr) := (blk3_c Hr10.out.blk).2.1; have yr2_10 : World.cell? _ ⟨w10.heap.size, 2, none⟩ = some (.slice Er 0 er) := (blk3_c Hr10.out.blk).2.2; clear hM hb hx yb0_9 yb1_9 yb2_9 ys0_9 ys1_9 ys2_9 yq0_9 yq1_9 yq2_9)
      go_upto_region 13 with (go_at_call 15; refine (times_is (p' := 0) Hq10.out rt_unit (inW_one (by have h := HXY.out.2.2.1; omega)) Hr10.out none_rt inW_nil (by simp) (by simp) 1 (HT.out.step HB10.out) (edge_nil_r fTimes _ _) rfl rfl rfl).mono ?_; rintro e w11 ⟨At, ct, Dt, dt, Et, et, rfl, hM, hb⟩; have hx := below_box hb (.cells #[.slice At 0 ct, .slice Dt 0 dt, .slice Et 0 et] 37); have HB11 := Aside0.mk (below_then HB10.out HB10.out.size hx); have Hs11 := Aside0.mk (Hs10.out.step hx); have Ht11 := Aside0.mk (WBx.new hM.rd rfl rfl rfl); have ys0_11 : World.cell? _ ⟨w8.heap.size, 0, none⟩ = some (.slice As 0 cs) := (blk3_c Hs11.out.blk).1; have ys1_11 : World.cell? _ ⟨w8.heap.size, 1, none⟩ = some (.slice Ds 0 ds) := (blk3_c Hs11.out.blk).2.1; have ys2_11 : World.cell? _ ⟨w8.heap.size, 2, none⟩ = some (.slice Es 0 es) := (blk3_c Hs11.out.blk).2.2; have yt0_11 : World.cell? _ ⟨w11.heap.size, 0, none⟩ = some (.slice At 0 ct) := (blk3_c Ht11.out.blk).1; have yt1_11 : World.cell? _ ⟨w11.heap.size, 1, none⟩ = some (.slice Dt 0 dt) := (blk3_c Ht11.out.blk).2.1; have yt2_11 : World.cell? _ ⟨w11.heap.size, 2, none⟩ = some (.slice Et 0 et) := (blk3_c Ht11.out.blk).2.2; clear hM hb hx ys0_10 ys1_10 ys2_10 yq0_10 yq1_10 yq2_10 yr0_10 yr1_10 yr2_10)
      go_upto_region 15 with fail
      go_quiet (fail)
      go_wp2
      go_ret
      exact ⟨rfl, below_then HB11.out HB11.out.size (pw_below_drewN (Below.refl _ _) _)⟩
set_option maxHeartbeats 8000000 in
set_option maxRecDepth 100000 in
theorem weighparts_ee (A0 : Option Addr) (c0 : Nat) (sx : List Int) (B0 : Option Addr) (d0 : Nat) (rx : List (List Int)) (E0 : Option Addr) (e0 : Nat) (ax : List Int) (F0 : Option Addr) (n0 f0 : Nat) (A1 : Option Addr) (c1 : Nat) (sy : List Int) (B1 : Option Addr) (d1 : Nat) (ry : List (List Int)) (E1 : Option Addr) (e1 : Nat) (ay : List Int) (F1 : Option Addr) (n1 f1 : Nat) (w : World) (hr0 : RelRd w A0 c0 sx B0 d0 rx) (ha0 : Kd.C KI w E0 ax.length ax) (hn0 : n0 ≤ 9223372036854775807) (hr1 : RelRd w A1 c1 sy B1 d1 ry) (ha1 : Kd.C KI w E1 ay.length ay) (hn1 : n1 ≤ 9223372036854775807) (htab : Tab w) (hx0 : ∀ s R, smallS3 sx = s → smallRows3 s.length rx = R → R = []) (hy0 : ∀ s R, smallS3 sy = s → smallRows3 s.length ry = R → R = []) :
    Calls Tryz.prog 6 #[.agg #[.slice A0 sx.length c0, .slice B0 rx.length d0, .slice E0 ax.length e0, .slice F0 n0 f0], .agg #[.slice A1 sy.length c1, .slice B1 ry.length d1, .slice E1 ay.length e1, .slice F1 n1 f1]] w fun e w' => e = .returned (.bool true) ∧ Below w.heap.size w w' := by
  have HT := Aside0.mk htab
  clear htab
  obtain ⟨sx', hs⟩ : ∃ s, smallS3 sx = s := ⟨_, rfl⟩
  obtain ⟨Rx, hR⟩ : ∃ R, smallRows3 sx'.length rx = R := ⟨_, rfl⟩
  obtain ⟨wx, hw⟩ : ∃ ws, (List.range Rx.length).map (refV 999 ax) = ws := ⟨_, rfl⟩
  have HFx := Aside0.mk (few4_of (by decide) (by decide) hs hR hw)
  have HEx := Aside0.mk (And.intro hs (And.intro hR hw))
  have hRlx : Rx.length ≤ 12 := HFx.out.2.l
  clear hs hR hw
  obtain ⟨sy', hs⟩ : ∃ s, smallS3 sy = s := ⟨_, rfl⟩
  obtain ⟨Ry, hR⟩ : ∃ R, smallRows3 sy'.length ry = R := ⟨_, rfl⟩
  obtain ⟨wy, hw⟩ : ∃ ws, (List.range Ry.length).map (refV 999 ay) = ws := ⟨_, rfl⟩
  have HFy := Aside0.mk (few4_of (by decide) (by decide) hs hR hw)
  have HEy := Aside0.mk (And.intro hs (And.intro hR hw))
  have hRly : Ry.length ≤ 12 := HFy.out.2.l
  clear hs hR hw
  obtain rfl : Rx = [] := hx0 _ _ HEx.out.1 HEx.out.2.1
  obtain rfl : wx = [] := List.length_eq_zero_iff.1 (by rw [HFx.out.1.l]; rfl)
  clear hx0
  obtain rfl : Ry = [] := hy0 _ _ HEy.out.1 HEy.out.2.1
  obtain rfl : wy = [] := List.length_eq_zero_iff.1 (by rw [HFy.out.1.l]; rfl)
  clear hy0
  have HG := Aside0.mk (shift_few HFy.out.1)
  have HGm := Aside0.mk (shift_rt HFy.out.2)
  have HD := Aside0.mk (show ∀ v ∈ sx', v ∉ sy'.map (· + 5) from by rw [← HEx.out.1, ← HEy.out.1]; exact shift_apart)
  have HPS := Aside0.mk (show ∀ v ∈ sy', 0 ≤ v ∧ v < 5 from by rw [← HEy.out.1]; exact smallS3_pos sy)
  have hsl : sy'.length ≤ 3 := HFy.out.2.s
  obtain ⟨P, hP1, hP2, hP3, hP4, hP5, hP6, hP7, hP8⟩ := parts_times HFx.out.1 HG.out HD.out
  obtain ⟨X, hX⟩ : ∃ X, ([] : List Int).sum = X := ⟨_, rfl⟩
  obtain ⟨Y, hY⟩ : ∃ Y, ([] : List Int).sum = Y := ⟨_, rfl⟩
  have hx1 := few_sum HFx.out.1
  have hy1 := few_sum HG.out
  have hxy := few_prod HFx.out.1 HG.out
  simp only [hX, hY] at hx1 hy1 hxy hP6
  have HXY := Aside0.mk (And.intro hX (And.intro hY (And.intro hx1 (And.intro hy1 hxy))))
  have hsc : P.sc.length ≤ 1000000 := by rw [hP2]; have h := merge_len true true true sx' (sy'.map (· + 5)); have h2 := HFx.out.2.s; rw [List.length_map] at h; show (merge true true true sx' (sy'.map (· + 5))).length ≤ _; omega
  have hPL : P.L.length = 0 := by rw [hP5]; simp
  have HP := Aside0.mk (And.intro hP1 (And.intro hP3.1.1 (And.intro hsc (And.intro hP4 (And.intro hPL (hP4.trans hPL))))))
  clear hP1 hP2 hP3 hP4 hP5 hP6 hP7 hP8 hX hY hx1 hy1 hxy hsc hPL
  obtain ⟨W0, hW0⟩ : ∃ W0, (w.alloc (.cells #[.slice A0 sx.length c0, .slice B0 rx.length d0, .slice E0 ax.length e0, .slice F0 n0 f0] 26)).alloc (.cells #[.slice A1 sy.length c1, .slice B1 ry.length d1, .slice E1 ay.length e1, .slice F1 n1 f1] 26) = W0 := ⟨_, rfl⟩
  have HB0 := Aside0.mk (show Below w.heap.size w W0 from by rw [← hW0]; exact below_alloc (below_alloc (Below.refl _ _) _) _)
  have Hx0 := Aside0.mk (show P4Bx W0 w.heap.size A0 c0 sx B0 d0 rx E0 e0 ax F0 n0 f0 from ⟨by rw [← hW0]; exact blk_two1 _ _ _, hr0.step HB0.out, Kd.C_below ha0 HB0.out⟩)
  have Hy0 := Aside0.mk (show P4Bx W0 (w.heap.size + 1) A1 c1 sy B1 d1 ry E1 e1 ay F1 n1 f1 from ⟨by rw [← hW0]; exact blk_two2 _ _ _, hr1.step HB0.out, Kd.C_below ha1 HB0.out⟩)
  clear hr0 ha0 hr1 ha1
  have yx0_0 : World.cell? _ ⟨w.heap.size, 0, none⟩ = some (.slice A0 sx.length c0) := (blk4_c Hx0.out.blk).1
  have yx1_0 : World.cell? _ ⟨w.heap.size, 1, none⟩ = some (.slice B0 rx.length d0) := (blk4_c Hx0.out.blk).2.1
  have yx2_0 : World.cell? _ ⟨w.heap.size, 2, none⟩ = some (.slice E0 ax.length e0) := (blk4_c Hx0.out.blk).2.2.1
  have yx3_0 : World.cell? _ ⟨w.heap.size, 3, none⟩ = some (.slice F0 n0 f0) := (blk4_c Hx0.out.blk).2.2.2
  have yy0_0 : World.cell? _ ⟨w.heap.size + 1, 0, none⟩ = some (.slice A1 sy.length c1) := (blk4_c Hy0.out.blk).1
  have yy1_0 : World.cell? _ ⟨w.heap.size + 1, 1, none⟩ = some (.slice B1 ry.length d1) := (blk4_c Hy0.out.blk).2.1
  have yy2_0 : World.cell? _ ⟨w.heap.size + 1, 2, none⟩ = some (.slice E1 ay.length e1) := (blk4_c Hy0.out.blk).2.2.1
  have yy3_0 : World.cell? _ ⟨w.heap.size + 1, 3, none⟩ = some (.slice F1 n1 f1) := (blk4_c Hy0.out.blk).2.2.2
  go_enter Tryz.func6, Tryz.ntmps6
  go_upto_region 2 with (go_at_call 12; refine (shown4_any _ (HT.out.step HB0.out)).mono ?_; rintro e w1 ⟨rfl, hb⟩; have HB1 := Aside0.mk (below_then HB0.out HB0.out.size hb); have Hx1 := Aside0.mk (Hx0.out.step hb); have Hy1 := Aside0.mk (Hy0.out.step hb); have yx0_1 : World.cell? _ ⟨w.heap.size, 0, none⟩ = some (.slice A0 sx.length c0) := (blk4_c Hx1.out.blk).1; have yx1_1 : World.cell? _ ⟨w.heap.size, 1, none⟩ = some (.slice B0 rx.length d0) := (blk4_c Hx1.out.blk).2.1; have yx2_1 : World.cell? _ ⟨w.heap.size, 2, none⟩ = some (.slice E0 ax.length e0) := (blk4_c Hx1.out.blk).2.2.1; have yx3_1 : World.cell? _ ⟨w.heap.size, 3, none⟩ = some (.slice F0 n0 f0) := (blk4_c Hx1.out.blk).2.2.2; have yy0_1 : World.cell? _ ⟨w.heap.size + 1, 0, none⟩ = some (.slice A1 sy.length c1) := (blk4_c Hy1.out.blk).1; have yy1_1 : World.cell? _ ⟨w.heap.size + 1, 1, none⟩ = some (.slice B1 ry.length d1) := (blk4_c Hy1.out.blk).2.1; have yy2_1 : World.cell? _ ⟨w.heap.size + 1, 2, none⟩ = some (.slice E1 ay.length e1) := (blk4_c Hy1.out.blk).2.2.1; have yy3_1 : World.cell? _ ⟨w.heap.size + 1, 3, none⟩ = some (.slice F1 n1 f1) := (blk4_c Hy1.out.blk).2.2.2; clear hb yx0_0 yx1_0 yx2_0 yx3_0 yy0_0 yy1_0 yy2_0 yy3_0)
  clear hW0
  go_upto_region 3 with (first
      | (have hgd := HB2; clear hgd; go_at_call 16; refine (number_is (n' := 0) Hrr2.out rfl rfl Hdd2.out (by omega) HEx.out.2.2).mono ?_; rintro e w3 ⟨Ea, ea, rfl, hM, hb⟩; have hx := below_box hb (.cells #[.slice Aa sx'.length ca, .slice Da 0 da, .slice Ea 0 ea] 37); have HB3 := Aside0.mk (below_then HB2.out HB2.out.size hx); have Hy3 := Aside0.mk (Hy2.out.step hx); have Ha3 := Aside0.mk (WBx.new (n' := 0) (m := 0) hM rfl rfl (HFx.out.1.l)); have yy0_3 : World.cell? _ ⟨w.heap.size + 1, 0, none⟩ = some (.slice A1 sy.length c1) := (blk4_c Hy3.out.blk).1; have yy1_3 : World.cell? _ ⟨w.heap.size + 1, 1, none⟩ = some (.slice B1 ry.length d1) := (blk4_c Hy3.out.blk).2.1; have yy2_3 : World.cell? _ ⟨w.heap.size + 1, 2, none⟩ = some (.slice E1 ay.length e1) := (blk4_c Hy3.out.blk).2.2.1; have yy3_3 : World.cell? _ ⟨w.heap.size + 1, 3, none⟩ = some (.slice F1 n1 f1) := (blk4_c Hy3.out.blk).2.2.2; have ya0_3 : World.cell? _ ⟨w3.heap.size, 0, none⟩ = some (.slice Aa sx'.length ca) := (blk3_c Ha3.out.blk).1; have ya1_3 : World.cell? _ ⟨w3.heap.size, 1, none⟩ = some (.slice Da 0 da) := (blk3_c Ha3.out.blk).2.1; have ya2_3 : World.cell? _ ⟨w3.heap.size, 2, none⟩ = some (.slice Ea 0 ea) := (blk3_c Ha3.out.blk).2.2; clear hM hb hx yy0_2 yy1_2 yy2_2 yy3_2)
      | (go_at_call 14; refine (ref_is (n' := 0) Hx1.out 999 (by decide) (by decide) hn0 HEx.out.1 HEx.out.2.1 rfl rfl).mono ?_; rintro e w2 ⟨Aa, ca, Da, da, Er, er, rfl, hM, hD, hb⟩; have HB2 := Aside0.mk (below_then HB1.out HB1.out.size hb); have Hy2 := Aside0.mk (Hy1.out.step hb); have Hrr2 := Aside0.mk (hM); have Hdd2 := Aside0.mk (hD); have yy0_2 : World.cell? _ ⟨w.heap.size + 1, 0, none⟩ = some (.slice A1 sy.length c1) := (blk4_c Hy2.out.blk).1; have yy1_2 : World.cell? _ ⟨w.heap.size + 1, 1, none⟩ = some (.slice B1 ry.length d1) := (blk4_c Hy2.out.blk).2.1; have yy2_2 : World.cell? _ ⟨w.heap.size + 1, 2, none⟩ = some (.slice E1 ay.length e1) := (blk4_c Hy2.out.blk).2.2.1; have yy3_2 : World.cell? _ ⟨w.heap.size + 1, 3, none⟩ = some (.slice F1 n1 f1) := (blk4_c Hy2.out.blk).2.2.2; clear hM hD hb yx0_1 yx1_1 yx2_1 yx3_1 yy0_1 yy1_1 yy2_1 yy3_1))
  clear yy0_3 yy1_3 yy2_3 yy3_3 ya0_3 ya1_3 ya2_3
  generalize w3.alloc (.cells #[.slice Aa sx'.length ca, .slice Da 0 da, .slice Ea 0 ea] 37) = WA at HB3 Ha3 Hy3 ⊢
  generalize w3.heap.size = ga at Ha3 ⊢
  have yy0_3 : World.cell? _ ⟨w.heap.size + 1, 0, none⟩ = some (.slice A1 sy.length c1) := (blk4_c Hy3.out.blk).1
  have yy1_3 : World.cell? _ ⟨w.heap.size + 1, 1, none⟩ = some (.slice B1 ry.length d1) := (blk4_c Hy3.out.blk).2.1
  have yy2_3 : World.cell? _ ⟨w.heap.size + 1, 2, none⟩ = some (.slice E1 ay.length e1) := (blk4_c Hy3.out.blk).2.2.1
  have yy3_3 : World.cell? _ ⟨w.heap.size + 1, 3, none⟩ = some (.slice F1 n1 f1) := (blk4_c Hy3.out.blk).2.2.2
  have ya0_3 : World.cell? _ ⟨ga, 0, none⟩ = some (.slice Aa sx'.length ca) := (blk3_c Ha3.out.blk).1
  have ya1_3 : World.cell? _ ⟨ga, 1, none⟩ = some (.slice Da 0 da) := (blk3_c Ha3.out.blk).2.1
  have ya2_3 : World.cell? _ ⟨ga, 2, none⟩ = some (.slice Ea 0 ea) := (blk3_c Ha3.out.blk).2.2
  go_upto_block 0 with (first
      | (have hgd := HB4; clear hgd; go_at_call 16; refine (number_sh (n' := 0) Hrr4.out rfl rfl Hdd4.out (by omega) HEy.out.2.2).mono ?_; rintro e w5 ⟨Eb, eb, rfl, hM, hb⟩; have hx := below_box hb (.cells #[.slice Ab sy'.length cb, .slice Db 0 db, .slice Eb 0 eb] 37); have HQ2 := Aside0.mk (below_then HQ1.out HQ1.out.size hx); have HS0 := Aside0.mk hM; have ysb : World.cell? _ ⟨w5.heap.size, 0, none⟩ = some (.slice Ab sy'.length cb) := (blk3_c HS0.out.blk).1; have HB5 := Aside0.mk (below_then HB4.out HB4.out.size hx); have Ha5 := Aside0.mk (Ha4.out.step hx); have ya0_5 : World.cell? _ ⟨ga, 0, none⟩ = some (.slice Aa sx'.length ca) := (blk3_c Ha5.out.blk).1; have ya1_5 : World.cell? _ ⟨ga, 1, none⟩ = some (.slice Da 0 da) := (blk3_c Ha5.out.blk).2.1; have ya2_5 : World.cell? _ ⟨ga, 2, none⟩ = some (.slice Ea 0 ea) := (blk3_c Ha5.out.blk).2.2; clear hM hb hx ya0_4 ya1_4 ya2_4)
      | (go_at_call 14; refine (ref_sh (n' := 0) Hy3.out 999 (by decide) (by decide) hn1 HEy.out.1 HEy.out.2.1 rfl rfl).mono ?_; rintro e w4 ⟨Ab, cb, Db, db, Er, er, rfl, hM, hD, hb⟩; have HQ1 := Aside0.mk hb; have HB4 := Aside0.mk (below_then HB3.out HB3.out.size hb); have Ha4 := Aside0.mk (Ha3.out.step hb); have Hrr4 := Aside0.mk (hM); have Hdd4 := Aside0.mk (hD); have ya0_4 : World.cell? _ ⟨ga, 0, none⟩ = some (.slice Aa sx'.length ca) := (blk3_c Ha4.out.blk).1; have ya1_4 : World.cell? _ ⟨ga, 1, none⟩ = some (.slice Da 0 da) := (blk3_c Ha4.out.blk).2.1; have ya2_4 : World.cell? _ ⟨ga, 2, none⟩ = some (.slice Ea 0 ea) := (blk3_c Ha4.out.blk).2.2; clear hM hD hb yy0_3 yy1_3 yy2_3 yy3_3 ya0_3 ya1_3 ya2_3))
  go_wp2_with fail
  clear ysb ya0_5 ya1_5 ya2_5
  generalize w5.alloc (.cells #[.slice Ab sy'.length cb, .slice Db 0 db, .slice Eb 0 eb] 37) = WB at HB5 HQ2 HS0 Ha5 ⊢
  generalize w5.heap.size = gb at HS0 ⊢
  clear HQ1 HB5 Ha5
  go_loopw [8] (fun i W => ∃ k : Nat, k ≤ sy'.length ∧ i = .int .i64 k ∧ Aside0 (ShB W WA.heap.size gb Ab cb sy'.length (shTo sy' k) Db db 0 [] Eb eb 0 [] ∧ Below WA.heap.size WA W)) (fun i _ => sy'.length - (intOf i).toNat)
  case atStart => exact ⟨0, Nat.zero_le _, rfl, ⟨by rw [shTo_zero]; exact HS0.out, HQ2.out⟩⟩
  case round =>
    clear HS0 HQ2
    obtain ⟨k, hk, rfl, HL⟩ := hrel
    have s0 : World.cell? _ ⟨gb, 0, none⟩ = some (.slice Ab sy'.length cb) := (blk3_c HL.out.1.blk).1
    by_cases hlt : k < sy'.length
    · have hkl : (k : Int) < (sy'.length : Int) := by omega
      have hst := HL.out.1.step (below_drew (Below.refl wr.heap.size wr))
      have e0 : World.cell? _ ⟨gb, 0, none⟩ = some (.slice Ab sy'.length cb) := (blk3_c hst.blk).1
      obtain ⟨gs, hAs, hgs, e1, hfr, hput⟩ := hst.put hlt
      subst hAs
      obtain ⟨z, hz⟩ : ∃ z, rd sy' (k : Int) = z := ⟨_, rfl⟩
      have hzb := HPS.out z (by rw [← hz, rd_get _ _ hlt]; exact List.getElem_mem hlt)
      have hz0 := hzb.1
      have hz5 := hzb.2
      have HSU := Aside0.mk (show (shTo sy' k).set k (z + 5) = shTo sy' (k + 1) from by rw [← hz]; exact shTo_succ hlt)
      rw [shTo_rd hlt, hz] at e1
      have HPUT := Aside0.mk (hput (z + 5))
      have HFR := Aside0.mk hfr
      have HBL := Aside0.mk (((below_then HL.out.2 HL.out.2.size (below_drew (Below.refl wr.heap.size wr))).setCell (p := ⟨gs, k, none⟩) hgs (.int .i64 (z + 5))))
      clear hst hput hfr hz hzb
      go_upto_region 7 with fail
      clear s0
      refine start_ (n := 13) (S := fun w' => w'.cell? ⟨gb, 0, none⟩ = some (.slice (some ⟨gs, 0, none⟩) sy'.length cb) ∧ w'.cell? ⟨gs, k, none⟩ = some (.int .i64 z)) (ds := [12]) #[false, false, false, false, false, false, false, false, false, false, false, false, false] (by kernel_rfl) rfl rfl ⟨e0, e1⟩ (fun hHeld => ?_)
      generalize hD : wr.drew = w17 at *
      clear hD
      refine pure_ (i := 0) (N := some 34) (v := ?_) (a' := ?_) #[true, false, false, false, false, false, false, false, false, false, false, false, false] rfl rfl (by kernel_rfl) (fun _ _ _ h => h) (Or.inl ⟨by rfl, ?_⟩) ?_ ?_
      rotate_left
      · intro w'
        go_simp
        with_reducible rfl
      rotate_left
      · simp only [Act.put, List.setIfInBounds_toArray, List.set_cons_zero, List.set_cons_succ, i64_w, i32_w]
        rfl
      refine pure_ (i := 1) (N := some 35) (v := ?_) (a' := ?_) #[true, true, false, false, false, false, false, false, false, false, false, false, false] rfl rfl (by kernel_rfl) (fun _ _ _ h => h) (Or.inl ⟨by rfl, ?_⟩) ?_ ?_
      rotate_left
      · intro w'
        go_simp
        with_reducible rfl
      rotate_left
      · simp only [Act.put, List.setIfInBounds_toArray, List.set_cons_zero, List.set_cons_succ, i64_w, i32_w]
        rfl
      refine take_ (i := 2) (N := some 36) (v := ?_) (a' := ?_) #[true, true, true, false, false, false, false, false, false, false, false, false, false] rfl rfl (by kernel_rfl) (fun _ _ _ h => h) (Or.inl ⟨by rfl, ?_⟩) hHeld ?_ ?_
      rotate_left
      · rintro w' ⟨s0, s1⟩
        go_simp
        with_reducible rfl
      rotate_left
      · simp only [Act.put, List.setIfInBounds_toArray, List.set_cons_zero, List.set_cons_succ, i64_w, i32_w]
        rfl
      refine pure_ (i := 3) (N := some 37) (v := ?_) (a' := ?_) #[true, true, true, true, false, false, false, false, false, false, false, false, false] rfl rfl (by kernel_rfl) (fun _ _ _ h => h) (Or.inl ⟨by rfl, ?_⟩) ?_ ?_
      rotate_left
      · intro w'
        go_simp
        with_reducible rfl
      rotate_left
      · simp only [Act.put, List.setIfInBounds_toArray, List.set_cons_zero, List.set_cons_succ, i64_w, i32_w]
        rfl
      refine pure_ (i := 4) (N := some 38) (v := ?_) (a' := ?_) #[true, true, true, true, true, false, false, false, false, false, false, false, false] rfl rfl (by kernel_rfl) (fun _ _ _ h => h) (Or.inl ⟨by rfl, ?_⟩) ?_ ?_
      rotate_left
      · intro w'
        go_simp
        with_reducible rfl
      rotate_left
      · simp only [Act.put, List.setIfInBounds_toArray, List.set_cons_zero, List.set_cons_succ, i64_w, i32_w]
        rfl
      refine pure_ (i := 5) (N := some 39) (v := ?_) (a' := ?_) #[true, true, true, true, true, true, false, false, false, false, false, false, false] rfl rfl (by kernel_rfl) (fun _ _ _ h => h) (Or.inl ⟨by rfl, ?_⟩) ?_ ?_
      rotate_left
      · intro w'
        go_simp
        with_reducible rfl
      rotate_left
      · simp only [Act.put, List.setIfInBounds_toArray, List.set_cons_zero, List.set_cons_succ, i64_w, i32_w]
        rfl
      refine take_ (i := 6) (N := some 40) (v := ?_) (a' := ?_) #[true, true, true, true, true, true, true, false, false, false, false, false, false] rfl rfl (by kernel_rfl) (fun _ _ _ h => h) (Or.inl ⟨by rfl, ?_⟩) hHeld ?_ ?_
      rotate_left
      · rintro w' ⟨s0, s1⟩
        go_simp
        with_reducible rfl
      rotate_left
      · simp only [Act.put, List.setIfInBounds_toArray, List.set_cons_zero, List.set_cons_succ, i64_w, i32_w]
        rfl
      refine pure_ (i := 7) (N := some 41) (v := ?_) (a' := ?_) #[true, true, true, true, true, true, true, true, false, false, false, false, false] rfl rfl (by kernel_rfl) (fun _ _ _ h => h) (Or.inl ⟨by rfl, ?_⟩) ?_ ?_
      rotate_left
      · intro w'
        go_simp
        with_reducible rfl
      rotate_left
      · simp only [Act.put, List.setIfInBounds_toArray, List.set_cons_zero, List.set_cons_succ, i64_w, i32_w]
        rfl
      refine pure_ (i := 8) (N := some 42) (v := ?_) (a' := ?_) #[true, true, true, true, true, true, true, true, true, false, false, false, false] rfl rfl (by kernel_rfl) (fun _ _ _ h => h) (Or.inl ⟨by rfl, ?_⟩) ?_ ?_
      rotate_left
      · intro w'
        go_simp
        with_reducible rfl
      rotate_left
      · simp only [Act.put, List.setIfInBounds_toArray, List.set_cons_zero, List.set_cons_succ, i64_w, i32_w]
        rfl
      refine take_ (i := 9) (N := some 43) (v := ?_) (a' := ?_) #[true, true, true, true, true, true, true, true, true, true, false, false, false] rfl rfl (by kernel_rfl) (fun _ _ _ h => h) (Or.inl ⟨by rfl, ?_⟩) hHeld ?_ ?_
      rotate_left
      · rintro w' ⟨s0, s1⟩
        go_simp
        with_reducible rfl
      rotate_left
      · simp only [Act.put, List.setIfInBounds_toArray, List.set_cons_zero, List.set_cons_succ, i64_w, i32_w]
        rfl
      refine pure_ (i := 10) (N := some 44) (v := ?_) (a' := ?_) #[true, true, true, true, true, true, true, true, true, true, true, false, false] rfl rfl (by kernel_rfl) (fun _ _ _ h => h) (Or.inl ⟨by rfl, ?_⟩) ?_ ?_
      rotate_left
      · intro w'
        go_simp
        with_reducible rfl
      rotate_left
      · simp only [Act.put, List.setIfInBounds_toArray, List.set_cons_zero, List.set_cons_succ, i64_w, i32_w]
        rfl
      refine pure_ (i := 11) (N := some 45) (v := ?_) (a' := ?_) #[true, true, true, true, true, true, true, true, true, true, true, true, false] rfl rfl (by kernel_rfl) (fun _ _ _ h => h) (Or.inl ⟨by rfl, ?_⟩) ?_ ?_
      rotate_left
      · intro w'
        go_simp
        with_reducible rfl
      rotate_left
      · simp only [Act.put, List.setIfInBounds_toArray, List.set_cons_zero, List.set_cons_succ, i64_w, i32_w]
        rfl
      refine last_ (i := 12) (N := none) #[true, true, true, true, true, true, true, true, true, true, true, true, true] rfl rfl (by kernel_rfl) (by decide) (fun K hK => ?_)
      have z0 := e1
      have z1 := HFR.out
      refine skip_ (w1 := ?_) (by rfl) rfl ?_ ?_
      rotate_left
      · go_simp
        rfl
      refine hK.out _ _ ?_
      clear hK K
      refine done_ (by kernel_rfl) ?_
      go_wp2
      go_roundw
      case measure => simp [intOf]; omega
      case rel =>
        refine ⟨k + 1, by omega, by go_num, ?_⟩
        rw [show wrap64 (z + 5) = z + 5 from Go.IntWalk.wrap64_in _ (by omega)]
        exact ⟨by rw [← HSU.out]; exact HPUT.out, HBL.out⟩
    · obtain rfl : k = sy'.length := by omega
      have Hb6 := Aside0.mk (show WBx _ gb Ab cb sy'.length (sy'.map (· + 5)) Db db 0 [] Eb eb 0 [] from by have h := HL.out.1.wbx; rw [shTo_all] at h; exact h)
      have HB6 := Aside0.mk (below_then HB3.out HB3.out.size HL.out.2)
      clear s0
      have Ha6 := Aside0.mk (Ha3.out.step HL.out.2)
      have ya0_6 : World.cell? _ ⟨ga, 0, none⟩ = some (.slice Aa sx'.length ca) := (blk3_c Ha6.out.blk).1
      have ya1_6 : World.cell? _ ⟨ga, 1, none⟩ = some (.slice Da 0 da) := (blk3_c Ha6.out.blk).2.1
      have ya2_6 : World.cell? _ ⟨ga, 2, none⟩ = some (.slice Ea 0 ea) := (blk3_c Ha6.out.blk).2.2
      have yb0_6 : World.cell? _ ⟨gb, 0, none⟩ = some (.slice Ab sy'.length cb) := (blk3_c Hb6.out.blk).1
      have yb1_6 : World.cell? _ ⟨gb, 1, none⟩ = some (.slice Db 0 db) := (blk3_c Hb6.out.blk).2.1
      have yb2_6 : World.cell? _ ⟨gb, 2, none⟩ = some (.slice Eb 0 eb) := (blk3_c Hb6.out.blk).2.2
      go_upto_region 9 with (go_at_call 15; refine (times_is (p' := 0) Ha6.out HFx.out.2.rt (few_inW HFx.out.1) Hb6.out HGm.out.rt (few_inW HG.out) (by have := HFx.out.2.s; omega) (by rw [List.length_map]; omega) 1000 (HT.out.step HB6.out) HP.out.1 rfl HP.out.2.2.2.2.1 HP.out.2.2.2.2.2).mono ?_; rintro e w7 ⟨Ap, cp, Dp, dp, Ep, ep, rfl, hM, hb⟩; have hx := below_box hb (.cells #[.slice Ap P.sc.length cp, .slice Dp 0 dp, .slice Ep 0 ep] 37); have HB7 := Aside0.mk (below_then HB6.out HB6.out.size hx); have Ha7 := Aside0.mk (Ha6.out.step hx); have Hb7 := Aside0.mk (Hb6.out.step hx); have Hp7 := Aside0.mk (WBx.new hM.rd rfl HP.out.2.2.2.2.1 HP.out.2.2.2.2.2); have ya0_7 : World.cell? _ ⟨ga, 0, none⟩ = some (.slice Aa sx'.length ca) := (blk3_c Ha7.out.blk).1; have ya1_7 : World.cell? _ ⟨ga, 1, none⟩ = some (.slice Da 0 da) := (blk3_c Ha7.out.blk).2.1; have ya2_7 : World.cell? _ ⟨ga, 2, none⟩ = some (.slice Ea 0 ea) := (blk3_c Ha7.out.blk).2.2; have yb0_7 : World.cell? _ ⟨gb, 0, none⟩ = some (.slice Ab sy'.length cb) := (blk3_c Hb7.out.blk).1; have yb1_7 : World.cell? _ ⟨gb, 1, none⟩ = some (.slice Db 0 db) := (blk3_c Hb7.out.blk).2.1; have yb2_7 : World.cell? _ ⟨gb, 2, none⟩ = some (.slice Eb 0 eb) := (blk3_c Hb7.out.blk).2.2; have yp0_7 : World.cell? _ ⟨w7.heap.size, 0, none⟩ = some (.slice Ap P.sc.length cp) := (blk3_c Hp7.out.blk).1; have yp1_7 : World.cell? _ ⟨w7.heap.size, 1, none⟩ = some (.slice Dp 0 dp) := (blk3_c Hp7.out.blk).2.1; have yp2_7 : World.cell? _ ⟨w7.heap.size, 2, none⟩ = some (.slice Ep 0 ep) := (blk3_c Hp7.out.blk).2.2; clear hM hb hx ya0_6 ya1_6 ya2_6 yb0_6 yb1_6 yb2_6)
      go_upto_region 10 with (go_at_call 25; refine (sum_nothing (ws0 Hp7.out.rd HP.out.2.2.2.2.1 HP.out.2.2.2.2.2) rfl HP.out.2.1 HP.out.2.2.1).mono ?_; rintro e w8 ⟨As, cs, Ds, ds, Es, es, rfl, hM, hb⟩; have hx := below_box hb (.cells #[.slice As 0 cs, .slice Ds 0 ds, .slice Es 0 es] 37); have HB8 := Aside0.mk (below_then HB7.out HB7.out.size hx); have Ha8 := Aside0.mk (Ha7.out.step hx); have Hb8 := Aside0.mk (Hb7.out.step hx); have Hs8 := Aside0.mk (WBx.new hM.rd rfl rfl rfl); have ya0_8 : World.cell? _ ⟨ga, 0, none⟩ = some (.slice Aa sx'.length ca) := (blk3_c Ha8.out.blk).1; have ya1_8 : World.cell? _ ⟨ga, 1, none⟩ = some (.slice Da 0 da) := (blk3_c Ha8.out.blk).2.1; have ya2_8 : World.cell? _ ⟨ga, 2, none⟩ = some (.slice Ea 0 ea) := (blk3_c Ha8.out.blk).2.2; have yb0_8 : World.cell? _ ⟨gb, 0, none⟩ = some (.slice Ab sy'.length cb) := (blk3_c Hb8.out.blk).1; have yb1_8 : World.cell? _ ⟨gb, 1, none⟩ = some (.slice Db 0 db) := (blk3_c Hb8.out.blk).2.1; have yb2_8 : World.cell? _ ⟨gb, 2, none⟩ = some (.slice Eb 0 eb) := (blk3_c Hb8.out.blk).2.2; have ys0_8 : World.cell? _ ⟨w8.heap.size, 0, none⟩ = some (.slice As 0 cs) := (blk3_c Hs8.out.blk).1; have ys1_8 : World.cell? _ ⟨w8.heap.size, 1, none⟩ = some (.slice Ds 0 ds) := (blk3_c Hs8.out.blk).2.1; have ys2_8 : World.cell? _ ⟨w8.heap.size, 2, none⟩ = some (.slice Es 0 es) := (blk3_c Hs8.out.blk).2.2; clear hM hb hx ya0_7 ya1_7 ya2_7 yb0_7 yb1_7 yb2_7 yp0_7 yp1_7 yp2_7)
      go_upto_region 11 with (go_at_call 25; refine (sum_nothing Ha8.out.rd rfl HFx.out.1.r.1.1 (by have := HFx.out.2.s; omega)).mono ?_; rintro e w9 ⟨Aq, cq, Dq, dq, Eq, eq, rfl, hM, hb⟩; have hx := below_box hb (.cells #[.slice Aq 0 cq, .slice Dq 0 dq, .slice Eq 0 eq] 37); have HB9 := Aside0.mk (below_then HB8.out HB8.out.size hx); have Hb9 := Aside0.mk (Hb8.out.step hx); have Hs9 := Aside0.mk (Hs8.out.step hx); have Hq9 := Aside0.mk (WBx.new hM.rd rfl rfl rfl); have yb0_9 : World.cell? _ ⟨gb, 0, none⟩ = some (.slice Ab sy'.length cb) := (blk3_c Hb9.out.blk).1; have yb1_9 : World.cell? _ ⟨gb, 1, none⟩ = some (.slice Db 0 db) := (blk3_c Hb9.out.blk).2.1; have yb2_9 : World.cell? _ ⟨gb, 2, none⟩ = some (.slice Eb 0 eb) := (blk3_c Hb9.out.blk).2.2; have ys0_9 : World.cell? _ ⟨w8.heap.size, 0, none⟩ = some (.slice As 0 cs) := (blk3_c Hs9.out.blk).1; have ys1_9 : World.cell? _ ⟨w8.heap.size, 1, none⟩ = some (.slice Ds 0 ds) := (blk3_c Hs9.out.blk).2.1; have ys2_9 : World.cell? _ ⟨w8.heap.size, 2, none⟩ = some (.slice Es 0 es) := (blk3_c Hs9.out.blk).2.2; have yq0_9 : World.cell? _ ⟨w9.heap.size, 0, none⟩ = some (.slice Aq 0 cq) := (blk3_c Hq9.out.blk).1; have yq1_9 : World.cell? _ ⟨w9.heap.size, 1, none⟩ = some (.slice Dq 0 dq) := (blk3_c Hq9.out.blk).2.1; have yq2_9 : World.cell? _ ⟨w9.heap.size, 2, none⟩ = some (.slice Eq 0 eq) := (blk3_c Hq9.out.blk).2.2; clear hM hb hx ya0_8 ya1_8 ya2_8 yb0_8 yb1_8 yb2_8 ys0_8 ys1_8 ys2_8)
      go_upto_region 12 with (go_at_call 25; refine (sum_nothing Hb9.out.rd (List.length_map ..) HG.out.r.1.1 (by rw [List.length_map]; omega)).mono ?_; rintro e w10 ⟨Ar, cr, Dr, dr, Er, er, rfl, hM, hb⟩; have hx := below_box hb (.cells #[.slice Ar 0 cr, .slice Dr 0 dr, .slice Er 0 er] 37); have HB10 := Aside0.mk (below_then HB9.out HB9.out.size hx); have Hs10 := Aside0.mk (Hs9.out.step hx); have Hq10 := Aside0.mk (Hq9.out.step hx); have Hr10 := Aside0.mk (WBx.new hM.rd rfl rfl rfl); have ys0_10 : World.cell? _ ⟨w8.heap.size, 0, none⟩ = some (.slice As 0 cs) := (blk3_c Hs10.out.blk).1; have ys1_10 : World.cell? _ ⟨w8.heap.size, 1, none⟩ = some (.slice Ds 0 ds) := (blk3_c Hs10.out.blk).2.1; have ys2_10 : World.cell? _ ⟨w8.heap.size, 2, none⟩ = some (.slice Es 0 es) := (blk3_c Hs10.out.blk).2.2; have yq0_10 : World.cell? _ ⟨w9.heap.size, 0, none⟩ = some (.slice Aq 0 cq) := (blk3_c Hq10.out.blk).1; have yq1_10 : World.cell? _ ⟨w9.heap.size, 1, none⟩ = some (.slice Dq 0 dq) := (blk3_c Hq10.out.blk).2.1; have yq2_10 : World.cell? _ ⟨w9.heap.size, 2, none⟩ = some (.slice Eq 0 eq) := (blk3_c Hq10.out.blk).2.2; have yr0_10 : World.cell? _ ⟨w10.heap.size, 0, none⟩ = some (.slice Ar 0 cr) := (blk3_c Hr10.out.blk).1; have yr1_10 : World.cell? _ ⟨w10.heap.size, 1, none⟩ = some (.slice Dr 0 dr) := (blk3_c Hr10.out.blk).2.1; have yr2_10 : World.cell? _ ⟨w10.heap.size, 2, none⟩ = some (.slice Er 0 er) := (blk3_c Hr10.out.blk).2.2; clear hM hb hx yb0_9 yb1_9 yb2_9 ys0_9 ys1_9 ys2_9 yq0_9 yq1_9 yq2_9)
      go_upto_region 13 with (go_at_call 15; refine (times_is (p' := 0) Hq10.out none_rt inW_nil Hr10.out none_rt inW_nil (by simp) (by simp) 1 (HT.out.step HB10.out) (edge_nil_l fTimes _ _) rfl rfl rfl).mono ?_; rintro e w11 ⟨At, ct, Dt, dt, Et, et, rfl, hM, hb⟩; have hx := below_box hb (.cells #[.slice At 0 ct, .slice Dt 0 dt, .slice Et 0 et] 37); have HB11 := Aside0.mk (below_then HB10.out HB10.out.size hx); have Hs11 := Aside0.mk (Hs10.out.step hx); have Ht11 := Aside0.mk (WBx.new hM.rd rfl rfl rfl); have ys0_11 : World.cell? _ ⟨w8.heap.size, 0, none⟩ = some (.slice As 0 cs) := (blk3_c Hs11.out.blk).1; have ys1_11 : World.cell? _ ⟨w8.heap.size, 1, none⟩ = some (.slice Ds 0 ds) := (blk3_c Hs11.out.blk).2.1; have ys2_11 : World.cell? _ ⟨w8.heap.size, 2, none⟩ = some (.slice Es 0 es) := (blk3_c Hs11.out.blk).2.2; have yt0_11 : World.cell? _ ⟨w11.heap.size, 0, none⟩ = some (.slice At 0 ct) := (blk3_c Ht11.out.blk).1; have yt1_11 : World.cell? _ ⟨w11.heap.size, 1, none⟩ = some (.slice Dt 0 dt) := (blk3_c Ht11.out.blk).2.1; have yt2_11 : World.cell? _ ⟨w11.heap.size, 2, none⟩ = some (.slice Et 0 et) := (blk3_c Ht11.out.blk).2.2; clear hM hb hx ys0_10 ys1_10 ys2_10 yq0_10 yq1_10 yq2_10 yr0_10 yr1_10 yr2_10)
      go_upto_region 15 with fail
      go_quiet (fail)
      go_wp2
      go_ret
      exact ⟨rfl, below_then HB11.out HB11.out.size (pw_below_drewN (Below.refl _ _) _)⟩
theorem weighparts_walk (A0 : Option Addr) (c0 : Nat) (sx : List Int) (B0 : Option Addr) (d0 : Nat) (rx : List (List Int)) (E0 : Option Addr) (e0 : Nat) (ax : List Int) (F0 : Option Addr) (n0 f0 : Nat) (A1 : Option Addr) (c1 : Nat) (sy : List Int) (B1 : Option Addr) (d1 : Nat) (ry : List (List Int)) (E1 : Option Addr) (e1 : Nat) (ay : List Int) (F1 : Option Addr) (n1 f1 : Nat) (w : World) (hr0 : RelRd w A0 c0 sx B0 d0 rx) (ha0 : Kd.C KI w E0 ax.length ax) (hn0 : n0 ≤ 9223372036854775807) (hr1 : RelRd w A1 c1 sy B1 d1 ry) (ha1 : Kd.C KI w E1 ay.length ay) (hn1 : n1 ≤ 9223372036854775807) (htab : Tab w) :
    Calls Tryz.prog 6 #[.agg #[.slice A0 sx.length c0, .slice B0 rx.length d0, .slice E0 ax.length e0, .slice F0 n0 f0], .agg #[.slice A1 sy.length c1, .slice B1 ry.length d1, .slice E1 ay.length e1, .slice F1 n1 f1]] w fun e w' => e = .returned (.bool true) ∧ Below w.heap.size w w' := by
  by_cases hx : smallRows3 (smallS3 sx).length rx = []
  · have hx0 : ∀ s R, smallS3 sx = s → smallRows3 s.length rx = R → R = [] := fun s R h1 h2 => by subst h1 h2; exact hx
    by_cases hy : smallRows3 (smallS3 sy).length ry = []
    · have hy0 : ∀ s R, smallS3 sy = s → smallRows3 s.length ry = R → R = [] := fun s R h1 h2 => by subst h1 h2; exact hy
      exact weighparts_ee A0 c0 sx B0 d0 rx E0 e0 ax F0 n0 f0 A1 c1 sy B1 d1 ry E1 e1 ay F1 n1 f1 w hr0 ha0 hn0 hr1 ha1 hn1 htab hx0 hy0
    · have hy0 : ∀ s R, smallS3 sy = s → smallRows3 s.length ry = R → R ≠ [] := fun s R h1 h2 => by subst h1 h2; exact hy
      exact weighparts_en A0 c0 sx B0 d0 rx E0 e0 ax F0 n0 f0 A1 c1 sy B1 d1 ry E1 e1 ay F1 n1 f1 w hr0 ha0 hn0 hr1 ha1 hn1 htab hx0 hy0
  · have hx0 : ∀ s R, smallS3 sx = s → smallRows3 s.length rx = R → R ≠ [] := fun s R h1 h2 => by subst h1 h2; exact hx
    by_cases hy : smallRows3 (smallS3 sy).length ry = []
    · have hy0 : ∀ s R, smallS3 sy = s → smallRows3 s.length ry = R → R = [] := fun s R h1 h2 => by subst h1 h2; exact hy
      exact weighparts_ne A0 c0 sx B0 d0 rx E0 e0 ax F0 n0 f0 A1 c1 sy B1 d1 ry E1 e1 ay F1 n1 f1 w hr0 ha0 hn0 hr1 ha1 hn1 htab hx0 hy0
    · have hy0 : ∀ s R, smallS3 sy = s → smallRows3 s.length ry = R → R ≠ [] := fun s R h1 h2 => by subst h1 h2; exact hy
      exact weighparts_nn A0 c0 sx B0 d0 rx E0 e0 ax F0 n0 f0 A1 c1 sy B1 d1 ry E1 e1 ay F1 n1 f1 w hr0 ha0 hn0 hr1 ha1 hn1 htab hx0 hy0
end Go.Proofs.YtlmkgghpaaadhaaGreatDoor.G

namespace Go.Proofs.YtlmkgghpaaadhaaGreatDoor.weighParts
open Go.ChangeShapes Go.WideShapes Go.ChangeAt Go.RowKit Go.Proofs.YtlmkgghpaaadhaaGreatDoorW.PrintWords Go.Proofs.YtlmkgghpaaadhaaGreatDoorW.PrintLast Go.Proofs.YtlmkgghpaaadhaaGreatDoorW.PrintMore Go.Proofs.YtlmkgghpaaadhaaGreatDoor.PRefs
set_option linter.unusedVariables false
theorem own : ownKnob Tryz.prog.godebug = none := by kernel_rfl
theorem laidOut : laidOutB Tryz.prog = true := by kernel_rfl
set_option maxRecDepth 100000 in
theorem lifted (os : Os) (started : os.Started) (H : Type) (enc : TypeId × Value → H) :
    ReturnsInHanded {} Tryz.checked os 6 .any (fun w args => (Rows.weighPartsSpec.pre enc Tryz.prog Tryz.f6 [] false w args ∧ laidMetH Tryz.prog G.laidList w) ∧ sizedMet enc Tryz.prog Tryz.f6 (OpenSpec.ofChange Rows.weighPartsSpec) false w args)
      (Rows.weighPartsSpec.post enc Tryz.prog Tryz.f6 false true false false) := by
  refine returnsInHanded_of_change_and (C := Tryz.checked) (X := fun w _ => laidMetH Tryz.prog G.laidList w) (fun _ _ _ hh h => h.of_heap hh) own started (by kernel_rfl) Tryz.func6
    (ChangeSpec.witness_shaped (enc := enc) (C := Tryz.checked) (os := os) (X := fun w _ => laidMetH Tryz.prog G.laidList w) false (World.doorLaid Tryz.prog 400 os) #[.agg #[.slice none 0 0, .slice none 0 0, .slice none 0 0, .slice none 0 0], .agg #[.slice none 0 0, .slice none 0 0, .slice none 0 0, .slice none 0 0]] 8 rfl (World.shaped_of_RefB (by kernel_rfl) (by kernel_rfl)) (by kernel_rfl) (by kernel_rfl) (by kernel_rfl) (G.door_met os _)) ?_
  intro W base args ds gs before hval0 hW _ _ hL _
  have htab := G.tab_of hL
  have hval : ∀ (j : Nat) t v, Tryz.f6.params[j]? = some t → args[j]? = some v → Value.okWide Tryz.prog W .any base t v := hval0
  have hW' := hW
  obtain ⟨p, q, hA0, hV, rfl, hfz, hnd⟩ := hW
  have hA : DataW.TrodAll enc Tryz.prog W 0 (fun _ => true) true Tryz.f6.params.toList args.toList ds p := hA0
  rw [Tryz.params6] at hA hval
  obtain ⟨v0, vs0, d0, ds0, p0, q0, hargs, rfl, rfl, h0, r0⟩ := trodAll_cons hA
  obtain ⟨v1, vs1, d1, ds1, p1, q1, rfl, rfl, rfl, h1, r1⟩ := trodAll_cons r0
  obtain ⟨rfl, rfl, rfl⟩ := trodAll_nil r1
  obtain rfl : args = #[v0, v1] := by cases args; simp_all
  obtain ⟨rfl, rfl⟩ := trodVars_none hV
  obtain ⟨cs0, rfl, hcs0⟩ := okWide_struct Tryz.underlying26 (hval 0 26 v0 rfl rfl)
  obtain ⟨cs1, rfl, hcs1⟩ := okWide_struct Tryz.underlying26 (hval 1 26 v1 rfl rfl)
  have k0 := h0
  have lt0 : ∀ x ∈ p0, x.block < W.heap.size := by obtain ⟨m, hm⟩ := k0; exact DataW.trod_lt m _ _ _ hm
  have k1 := h1
  have lt1 : ∀ x ∈ p1, x.block < W.heap.size := by obtain ⟨m, hm⟩ := k1; exact DataW.trod_lt m _ _ _ hm
  obtain ⟨a0, cap0, z0, ar0, capr0, zr0, ab0, capb0, zb0, ac0, nc0, capc0, rfl, c0, b0, m0⟩ := (by obtain ⟨m, hm⟩ := h0; exact G.in_part4 hm : ∃ A c sc A' c' L Aa ca xA Ab nb cb, cs0 = #[.slice A sc.length c, .slice A' L.length c', .slice Aa xA.length ca, .slice Ab nb cb] ∧ G.RelRd W A c sc A' c' L ∧ Kd.C G.KI W Aa xA.length xA ∧ nb ≤ 9223372036854775807)
  obtain ⟨a1, cap1, z1, ar1, capr1, zr1, ab1, capb1, zb1, ac1, nc1, capc1, rfl, c1, b1, m1⟩ := (by obtain ⟨m, hm⟩ := h1; exact G.in_part4 hm : ∃ A c sc A' c' L Aa ca xA Ab nb cb, cs1 = #[.slice A sc.length c, .slice A' L.length c', .slice Aa xA.length ca, .slice Ab nb cb] ∧ G.RelRd W A c sc A' c' L ∧ Kd.C G.KI W Aa xA.length xA ∧ nb ≤ 9223372036854775807)
  clear hA0 hval0
  refine (G.weighparts_walk a0 cap0 z0 ar0 capr0 zr0 ab0 capb0 zb0 ac0 nc0 capc0 a1 cap1 z1 ar1 capr1 zr1 ab1 capb1 zb1 ac1 nc1 capc1 W c0 b0 m0 c1 b1 m1 htab).mono fun e W' ⟨he, bel⟩ => ?_
  subst he
  exact ⟨_, rfl, _, _, _, [], _, [], hW', trodAll_mk1 (shut_bool Tryz.underlying4 _), (trodAll_cons_mk (Below.trod laidOut (by kernel_rfl) (of_decide_eq_true (by kernel_rfl)) k0 bel lt0) (trodAll_cons_mk (Below.trod laidOut (by kernel_rfl) (of_decide_eq_true (by kernel_rfl)) k1 bel lt1) trodAll_mk0)), rfl, bel.frame _, fun h => by cases h⟩
theorem over : Rows.weighPartsRow.holds Tryz.pinned (OpenSpec.ofChange Rows.weighPartsSpec) :=
  OpenClaim.holds_of_wide 6 Tryz.f6 rfl rfl rfl rfl rfl rfl rfl ⟨rfl, rfl, rfl, rfl, rfl⟩ rfl rfl rfl rfl rfl (by kernel_rfl) Tryz.func6 (by kernel_rfl)
    (of_decide_eq_true (by kernel_rfl)) (by unfold Func.isWrapper; first | (rw [if_pos (by decide +kernel)]; kernel_rfl) | (rw [if_neg (by decide +kernel)]; exact ⟨rfl, rfl⟩))
    (fun os started H enc _ => lifted os started H enc)
theorem proved : Rows.WeighPartsCardSaid :=
  Claim7.holds_tied_plain_at .later [] [.data, .data, .data] true Rows.weighPartsCard.stood.harness true
    over (fun _ h => by cases h) (by kernel_rfl) (fun _ h => by cases h) weighParts_row_tie rfl ⟨rfl, rfl⟩ (by kernel_rfl) rfl
    (fun f fn hf hfn => by
      obtain rfl : f = 6 := Option.some.inj ((show Tryz.prog.funcNamed "arborist/arboristlaw04.WeighParts" = some 6 by kernel_rfl).symm.trans hf) |>.symm
      obtain rfl : fn = Tryz.f6 := (Option.some.inj (Tryz.func6.symm.trans hfn)).symm
      exact ⟨by kernel_rfl, fun j t ht => by
        rw [Tryz.params6] at ht
        have hm : t ∈ [26, 26] := by simpa using Array.mem_of_getElem? ht
        have hall : ([26, 26].all fun u => !Tryz.prog.wantsStandIn u) = true := by kernel_rfl
        exact (show Tryz.prog.wantsStandIn t = false by simpa using List.all_eq_true.1 hall t hm)⟩)
    (by kernel_rfl)
#print axioms proved
end Go.Proofs.YtlmkgghpaaadhaaGreatDoor.weighParts
