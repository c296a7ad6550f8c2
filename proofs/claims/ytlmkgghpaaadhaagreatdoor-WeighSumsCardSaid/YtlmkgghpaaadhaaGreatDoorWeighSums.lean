/- Proved: for every input the law arboristlaw04.WeighSums returns true and its arguments read as they did; what the program's tables hold at the start is tied to the program's text. No condition. -/
import Derived.Test.YtlmkgghpaaadhaaGreatDoorRows
import Derived.Test.YtlmkgghpaaadhaaGreatDoorCards
import Derived.Test.YtlmkgghpaaadhaaGreatDoorTie
import Derived.Test.YtlmkgghpaaadhaaGreatDoorNC
import Derived.Deep.Matrix
import Derived.ProofKit
import Derived.OpenShut
import Derived.WalkKit
import Derived.ShutString
import Derived.ChangeOld
import Derived.Below
import Derived.SevenTiedAt
import Derived.Stop.Joined
import Derived.Deep.DeepCutAuto
set_option linter.unusedVariables false
set_option linter.unusedSimpArgs false
namespace Go.Proofs.YtlmkgghpaaadhaaGreatDoor.G
open Go.RowKit Go.Proofs.YtlmkgghpaaadhaaGreatDoorW.PrintWords Go.Proofs.YtlmkgghpaaadhaaGreatDoorW.PrintLast Go.Proofs.YtlmkgghpaaadhaaGreatDoorW.PrintMore Go.Proofs.YtlmkgghpaaadhaaGreatDoor.PRefs
attribute [local go_sem] min2_mn min_two

set_option maxHeartbeats 8000000 in
set_option maxRecDepth 100000 in
theorem weighsums_yes (A0 : Option Addr) (c0 : Nat) (sx : List Int) (B0 : Option Addr) (d0 : Nat) (rx : List (List Int)) (E0 : Option Addr) (e0 : Nat) (ax : List Int) (F0 : Option Addr) (n0 f0 : Nat) (A1 : Option Addr) (c1 : Nat) (v : List Int) (w : World) (hr0 : RelRd w A0 c0 sx B0 d0 rx) (ha0 : Kd.C KI w E0 ax.length ax) (hn0 : n0 ≤ 9223372036854775807) (hr1 : Kd.C KI w A1 v.length v) (hc1 : v.length ≤ c1) (htab : Tab w) (hPP : ∀ s R ws, smallS3 sx = s → smallRows3 s.length rx = R → (List.range R.length).map (refV 4611686018427387904 ax) = ws → ∀ l ∈ partedTo ⟨s, R, ws⟩ (projRel s R (v.take 6)).1 (projRel s R (v.take 6)).2, tot l ≤ 4611686018427387904) :
    Calls Tryz.prog 5 #[.agg #[.slice A0 sx.length c0, .slice B0 rx.length d0, .slice E0 ax.length e0, .slice F0 n0 f0], .slice A1 v.length c1] w fun e w' => e = .returned (.bool true) ∧ Below w.heap.size w w' := by
  have HT := Aside0.mk htab
  clear htab
  obtain ⟨sx', hs⟩ : ∃ s, smallS3 sx = s := ⟨_, rfl⟩
  obtain ⟨Rx, hR⟩ : ∃ R, smallRows3 sx'.length rx = R := ⟨_, rfl⟩
  obtain ⟨wx, hw⟩ : ∃ ws, (List.range Rx.length).map (refV 4611686018427387904 ax) = ws := ⟨_, rfl⟩
  have HFx := Aside0.mk (big_of hs hR hw)
  have HEx := Aside0.mk (And.intro hs (And.intro hR hw))
  have hRlx : Rx.length ≤ 12 := HFx.out.2.2.l
  clear hs hR hw
  obtain ⟨hcut1, hcut2, hcut3⟩ := cutm 6 (Q := 6) rfl A1 c1 v hc1
  have hVl : (v.take 6).length ≤ 6 := by simp; omega
  have hvt : v.take 6 = v.take 6 := rfl
  obtain ⟨V, hV⟩ : ∃ V, v.take 6 = V := ⟨_, rfl⟩
  have hP0 := hPP _ _ _ HEx.out.1 HEx.out.2.1 HEx.out.2.2
  rw [hV] at hcut1 hcut2 hcut3 hVl hP0
  clear hvt hV
  obtain ⟨on, R2, hP⟩ : ∃ on R2, projRel sx' Rx V = (on, R2) := ⟨_, _, rfl⟩
  rw [hP] at hP0
  have hon : on = onto sx' V := (Prod.mk.inj hP).1.symm
  have hR2 : R2 = cutRows sx' Rx on := by rw [hon]; exact (Prod.mk.inj hP).2.symm
  obtain ⟨S2, hS2⟩ : ∃ S2, (partedTo ⟨sx', Rx, wx⟩ on R2).map List.sum = S2 := ⟨_, rfl⟩
  obtain ⟨M2, hM2⟩ : ∃ M2, (partedTo ⟨sx', Rx, wx⟩ on R2).map least = M2 := ⟨_, rfl⟩
  have hS2l : S2.length = R2.length := by rw [← hS2]; simp [partedTo]
  have hM2l : M2.length = R2.length := by rw [← hM2]; simp [partedTo]
  have hol : on.length ≤ 3 := by rw [hon, onto_eq _ _ HFx.out.2.2.rt.r.1.1]; exact Nat.le_trans (List.length_filter_le _ _) HFx.out.2.2.s
  have hR2l : R2.length ≤ 12 := by rw [hR2]; exact Nat.le_trans (cutRows_len _ _ _) HFx.out.2.2.l
  have hos : ∀ q ∈ on, q ∈ sx' := fun q hq => by rw [hon, onto_eq _ _ HFx.out.2.2.rt.r.1.1] at hq; exact memF hq
  have hRx : ∀ x ∈ R2, x.length ≤ 1000000 := fun x hx => by rw [hR2] at hx; rw [cut_row sx' Rx on HFx.out.2.2.rt.r.2.1 hos x hx]; omega
  have HV := Aside0.mk (hcut2 w hr1)
  have HW := Aside0.mk (And.intro hP (And.intro hS2 (And.intro hM2 (And.intro hS2l (And.intro hM2l hRx)))))
  have HPP := Aside0.mk hP0
  have hlow : sx'.length ≤ 3 := HFx.out.2.2.s
  clear hP hon hR2 hS2 hM2 hS2l hM2l hos hRx hP0 hPP hr1
  have hp0 := P4Bx.new (Ab := F0) (nb := n0) (cb := f0) hr0 ha0 (ca := e0)
  have HB0 := Aside0.mk (below_alloc (Below.refl w.heap.size w) (.cells #[.slice A0 sx.length c0, .slice B0 rx.length d0, .slice E0 ax.length e0, .slice F0 n0 f0] 26))
  have Hx0 := Aside0.mk hp0
  clear hp0 hr0 ha0
  have yx0_0 : World.cell? _ ⟨w.heap.size, 0, none⟩ = some (.slice A0 sx.length c0) := (blk4_c Hx0.out.blk).1
  have yx1_0 : World.cell? _ ⟨w.heap.size, 1, none⟩ = some (.slice B0 rx.length d0) := (blk4_c Hx0.out.blk).2.1
  have yx2_0 : World.cell? _ ⟨w.heap.size, 2, none⟩ = some (.slice E0 ax.length e0) := (blk4_c Hx0.out.blk).2.2.1
  have yx3_0 : World.cell? _ ⟨w.heap.size, 3, none⟩ = some (.slice F0 n0 f0) := (blk4_c Hx0.out.blk).2.2.2
  go_enter Tryz.func5, Tryz.ntmps5
  go_upto_region 2 with (go_at_call 12; refine (shown4_any _ (HT.out.step HB0.out)).mono ?_; rintro e w1 ⟨rfl, hb⟩; have HB1 := Aside0.mk (below_then HB0.out HB0.out.size hb); have Hx1 := Aside0.mk (Hx0.out.step hb); have yx0_1 : World.cell? _ ⟨w.heap.size, 0, none⟩ = some (.slice A0 sx.length c0) := (blk4_c Hx1.out.blk).1; have yx1_1 : World.cell? _ ⟨w.heap.size, 1, none⟩ = some (.slice B0 rx.length d0) := (blk4_c Hx1.out.blk).2.1; have yx2_1 : World.cell? _ ⟨w.heap.size, 2, none⟩ = some (.slice E0 ax.length e0) := (blk4_c Hx1.out.blk).2.2.1; have yx3_1 : World.cell? _ ⟨w.heap.size, 3, none⟩ = some (.slice F0 n0 f0) := (blk4_c Hx1.out.blk).2.2.2; clear hb yx0_0 yx1_0 yx2_0 yx3_0)
  go_upto_region 3 with (go_at_call 13; refine (limits_any _).mono ?_; rintro e w2 ⟨rfl, hb⟩; have HB2 := Aside0.mk (below_then HB1.out HB1.out.size hb); have Hx2 := Aside0.mk (Hx1.out.step hb); have yx0_2 : World.cell? _ ⟨w.heap.size, 0, none⟩ = some (.slice A0 sx.length c0) := (blk4_c Hx2.out.blk).1; have yx1_2 : World.cell? _ ⟨w.heap.size, 1, none⟩ = some (.slice B0 rx.length d0) := (blk4_c Hx2.out.blk).2.1; have yx2_2 : World.cell? _ ⟨w.heap.size, 2, none⟩ = some (.slice E0 ax.length e0) := (blk4_c Hx2.out.blk).2.2.1; have yx3_2 : World.cell? _ ⟨w.heap.size, 3, none⟩ = some (.slice F0 n0 f0) := (blk4_c Hx2.out.blk).2.2.2; clear hb yx0_1 yx1_1 yx2_1 yx3_1)
  go_upto_region 5 with (go_at_call 14; refine (ref_is (n' := Rx.length) Hx2.out 4611686018427387904 (by decide) (by decide) hn0 HEx.out.1 HEx.out.2.1 rfl rfl).mono ?_; rintro e w3 ⟨Aa, ca, Da, da, Ea, ea, rfl, hM, hD, hb⟩; have hx := below_box hb (.cells #[.slice Aa sx'.length ca, .slice Da Rx.length da, .slice Ea Rx.length ea] 34); have HB3 := Aside0.mk (below_then HB2.out HB2.out.size hx); have Ha3 := Aside0.mk (DBx.new (n := sx'.length) (n' := Rx.length) (c4 := ea) (D := dW wx) hM (by rw [refW_dW, HEx.out.2.2] at hD; exact hD)); have ya0_3 : World.cell? _ ⟨w3.heap.size, 0, none⟩ = some (.slice Aa sx'.length ca) := (blk3_c Ha3.out.blk).1; have ya1_3 : World.cell? _ ⟨w3.heap.size, 1, none⟩ = some (.slice Da Rx.length da) := (blk3_c Ha3.out.blk).2.1; have ya2_3 : World.cell? _ ⟨w3.heap.size, 2, none⟩ = some (.slice Ea Rx.length ea) := (blk3_c Ha3.out.blk).2.2; clear hM hD hb hx yx0_2 yx1_2 yx2_2 yx3_2)
  go_upto_region 6 with (first
      | (have hgd := HB4; clear hgd; go_at_call 25; refine (sum_ok (k2 := R2.length) Hnn4.out rfl rfl HFx.out.2.1 (by omega) HFx.out.1 (by omega) (Kd.C_below HV.out HB4.out) rfl (by omega) HW.out.1 (by omega) HPP.out HW.out.2.1 rfl rfl HW.out.2.2.2.1).mono ?_; rintro e w5 ⟨As, cs, Ds, ds, Es, es, rfl, hM, hb⟩; have hx := below_box hb (.cells #[.slice As on.length cs, .slice Ds R2.length ds, .slice Es R2.length es] 37); have HB5 := Aside0.mk (below_then HB4.out HB4.out.size hx); have Ha5 := Aside0.mk (Ha4.out.step hx); have Hs5 := Aside0.mk (WBx.new hM.rd rfl rfl HW.out.2.2.2.1); have ya0_5 : World.cell? _ ⟨w3.heap.size, 0, none⟩ = some (.slice Aa sx'.length ca) := (blk3_c Ha5.out.blk).1; have ya1_5 : World.cell? _ ⟨w3.heap.size, 1, none⟩ = some (.slice Da Rx.length da) := (blk3_c Ha5.out.blk).2.1; have ya2_5 : World.cell? _ ⟨w3.heap.size, 2, none⟩ = some (.slice Ea Rx.length ea) := (blk3_c Ha5.out.blk).2.2; have ys0_5 : World.cell? _ ⟨w5.heap.size, 0, none⟩ = some (.slice As on.length cs) := (blk3_c Hs5.out.blk).1; have ys1_5 : World.cell? _ ⟨w5.heap.size, 1, none⟩ = some (.slice Ds R2.length ds) := (blk3_c Hs5.out.blk).2.1; have ys2_5 : World.cell? _ ⟨w5.heap.size, 2, none⟩ = some (.slice Es R2.length es) := (blk3_c Hs5.out.blk).2.2; clear hM hb hx ya0_4 ya1_4 ya2_4)
      | (go_at_call 16; refine (number_dw Ha3.out.rd rfl rfl Ha3.out.d (by omega) HFx.out.2.1).mono ?_; rintro e w4 ⟨En, en, rfl, hM, hb⟩; have HB4 := Aside0.mk (below_then HB3.out HB3.out.size hb); have Ha4 := Aside0.mk (Ha3.out.step hb); have Hnn4 := Aside0.mk (hM); have ya0_4 : World.cell? _ ⟨w3.heap.size, 0, none⟩ = some (.slice Aa sx'.length ca) := (blk3_c Ha4.out.blk).1; have ya1_4 : World.cell? _ ⟨w3.heap.size, 1, none⟩ = some (.slice Da Rx.length da) := (blk3_c Ha4.out.blk).2.1; have ya2_4 : World.cell? _ ⟨w3.heap.size, 2, none⟩ = some (.slice Ea Rx.length ea) := (blk3_c Ha4.out.blk).2.2; clear hM hb ya0_3 ya1_3 ya2_3))
  clear hcut1
  go_upto_region 7 with (go_at_call 23; refine (dsum_ok Ha5.out.rd Ha5.out.d rfl rfl HFx.out.2.1 HFx.out.1 HFx.out.2.2.rt.r (by omega) (by omega) (Kd.C_below HV.out HB5.out) rfl HW.out.1 HPP.out HW.out.2.1).mono ?_; rintro e w6 ⟨At, ct, Dt, dt, Et, et, rfl, hM, hD, hb⟩; have hx := below_box hb (.cells #[.slice At on.length ct, .slice Dt R2.length dt, .slice Et R2.length et] 34); have HB6 := Aside0.mk (below_then HB5.out HB5.out.size hx); have Ha6 := Aside0.mk (Ha5.out.step hx); have Hs6 := Aside0.mk (Hs5.out.step hx); have Ht6 := Aside0.mk (DBx.new (n := on.length) (n' := R2.length) (c4 := et) (D := dW S2) hM hD); have ya0_6 : World.cell? _ ⟨w3.heap.size, 0, none⟩ = some (.slice Aa sx'.length ca) := (blk3_c Ha6.out.blk).1; have ya1_6 : World.cell? _ ⟨w3.heap.size, 1, none⟩ = some (.slice Da Rx.length da) := (blk3_c Ha6.out.blk).2.1; have ya2_6 : World.cell? _ ⟨w3.heap.size, 2, none⟩ = some (.slice Ea Rx.length ea) := (blk3_c Ha6.out.blk).2.2; have ys0_6 : World.cell? _ ⟨w5.heap.size, 0, none⟩ = some (.slice As on.length cs) := (blk3_c Hs6.out.blk).1; have ys1_6 : World.cell? _ ⟨w5.heap.size, 1, none⟩ = some (.slice Ds R2.length ds) := (blk3_c Hs6.out.blk).2.1; have ys2_6 : World.cell? _ ⟨w5.heap.size, 2, none⟩ = some (.slice Es R2.length es) := (blk3_c Hs6.out.blk).2.2; have yt0_6 : World.cell? _ ⟨w6.heap.size, 0, none⟩ = some (.slice At on.length ct) := (blk3_c Ht6.out.blk).1; have yt1_6 : World.cell? _ ⟨w6.heap.size, 1, none⟩ = some (.slice Dt R2.length dt) := (blk3_c Ht6.out.blk).2.1; have yt2_6 : World.cell? _ ⟨w6.heap.size, 2, none⟩ = some (.slice Et R2.length et) := (blk3_c Ht6.out.blk).2.2; clear hM hD hb hx ya0_5 ya1_5 ya2_5 ys0_5 ys1_5 ys2_5)
  go_upto_region 9 with (go_at_call 19; refine (same_yes Hs6.out.rd Ht6.out.rd Ht6.out.d rfl rfl HW.out.2.2.2.1 (by omega) HW.out.2.2.2.2.2 (by omega)).mono ?_; rintro e w7 ⟨rfl, hb⟩; have HB7 := Aside0.mk (below_then HB6.out HB6.out.size hb); have Ha7 := Aside0.mk (Ha6.out.step hb); have ya0_7 : World.cell? _ ⟨w3.heap.size, 0, none⟩ = some (.slice Aa sx'.length ca) := (blk3_c Ha7.out.blk).1; have ya1_7 : World.cell? _ ⟨w3.heap.size, 1, none⟩ = some (.slice Da Rx.length da) := (blk3_c Ha7.out.blk).2.1; have ya2_7 : World.cell? _ ⟨w3.heap.size, 2, none⟩ = some (.slice Ea Rx.length ea) := (blk3_c Ha7.out.blk).2.2; clear hb ya0_6 ya1_6 ya2_6 ys0_6 ys1_6 ys2_6 yt0_6 yt1_6 yt2_6)
  clear ya0_7 ya1_7 ya2_7
  generalize w7 = WA at HB7 Ha7 ⊢
  generalize w3.heap.size = ga at Ha7 ⊢
  have HST := Aside0.mk (show ∀ {W W1 : World}, (W.cell? ⟨ga, 0, none⟩ = some (.slice Aa sx'.length ca) ∧ W.cell? ⟨ga, 1, none⟩ = some (.slice Da Rx.length da) ∧ W.cell? ⟨ga, 2, none⟩ = some (.slice Ea Rx.length ea) ∧ Below WA.heap.size WA W) → Below W.heap.size W W1 → (W1.cell? ⟨ga, 0, none⟩ = some (.slice Aa sx'.length ca) ∧ W1.cell? ⟨ga, 1, none⟩ = some (.slice Da Rx.length da) ∧ W1.cell? ⟨ga, 2, none⟩ = some (.slice Ea Rx.length ea) ∧ Below WA.heap.size WA W1) from fun {W W1} h hb => ⟨(hb.cell (World.block_lt_of_cell? W _ h.1)).trans h.1, (hb.cell (World.block_lt_of_cell? W _ h.2.1)).trans h.2.1, (hb.cell (World.block_lt_of_cell? W _ h.2.2.1)).trans h.2.2.1, below_then h.2.2.2 h.2.2.2.size hb⟩)
  have HSE := Aside0.mk (show ∀ {W : World} {g : Nat} (i : Nat) (u : Value), (W.cell? ⟨ga, 0, none⟩ = some (.slice Aa sx'.length ca) ∧ W.cell? ⟨ga, 1, none⟩ = some (.slice Da Rx.length da) ∧ W.cell? ⟨ga, 2, none⟩ = some (.slice Ea Rx.length ea) ∧ Below WA.heap.size WA W) → WA.heap.size ≤ g → ((W.setCell ⟨g, i, none⟩ u).cell? ⟨ga, 0, none⟩ = some (.slice Aa sx'.length ca) ∧ (W.setCell ⟨g, i, none⟩ u).cell? ⟨ga, 1, none⟩ = some (.slice Da Rx.length da) ∧ (W.setCell ⟨g, i, none⟩ u).cell? ⟨ga, 2, none⟩ = some (.slice Ea Rx.length ea) ∧ Below WA.heap.size WA (W.setCell ⟨g, i, none⟩ u)) from fun {W g} i u h hg => ⟨cell_set_ne h.1 (by have hl := (Array.getElem?_eq_some_iff.1 Ha7.out.blk).1; show (ga : Nat) ≠ g; omega) i u, cell_set_ne h.2.1 (by have hl := (Array.getElem?_eq_some_iff.1 Ha7.out.blk).1; show (ga : Nat) ≠ g; omega) i u, cell_set_ne h.2.2.1 (by have hl := (Array.getElem?_eq_some_iff.1 Ha7.out.blk).1; show (ga : Nat) ≠ g; omega) i u, h.2.2.2.setCell (p := ⟨g, i, none⟩) hg u⟩)
  have HSB := Aside0.mk (show ∀ {W : World}, (W.cell? ⟨ga, 0, none⟩ = some (.slice Aa sx'.length ca) ∧ W.cell? ⟨ga, 1, none⟩ = some (.slice Da Rx.length da) ∧ W.cell? ⟨ga, 2, none⟩ = some (.slice Ea Rx.length ea) ∧ Below WA.heap.size WA W) → Below WA.heap.size WA W from fun {W} h => h.2.2.2)
  have HS0A := Aside0.mk (show (WA.cell? ⟨ga, 0, none⟩ = some (.slice Aa sx'.length ca) ∧ WA.cell? ⟨ga, 1, none⟩ = some (.slice Da Rx.length da) ∧ WA.cell? ⟨ga, 2, none⟩ = some (.slice Ea Rx.length ea) ∧ Below WA.heap.size WA WA) from ⟨(blk3_c Ha7.out.blk).1, (blk3_c Ha7.out.blk).2.1, (blk3_c Ha7.out.blk).2.2, Below.refl _ _⟩)
  have HSDA := Aside0.mk (HST.out HS0A.out (below_drew (Below.refl _ _)))
  have qq0 := HS0A.out.1
  have qq1 := HS0A.out.2.1
  have qq2 := HS0A.out.2.2.1
  go_region_held3 (fun W => W.cell? ⟨ga, 0, none⟩ = some (.slice Aa sx'.length ca) ∧ W.cell? ⟨ga, 1, none⟩ = some (.slice Da Rx.length da) ∧ W.cell? ⟨ga, 2, none⟩ = some (.slice Ea Rx.length ea) ∧ Below WA.heap.size WA W)
    (first | with_reducible exact HS11A.out | with_reducible exact HS10A.out | with_reducible exact HS9A.out | with_reducible exact HS8A.out | with_reducible exact HSDA.out | with_reducible exact HS0A.out | with_reducible exact HST.out HS11A.out (below_alloc (Below.refl _ _) _) | with_reducible exact HST.out HS10A.out (below_alloc (Below.refl _ _) _) | with_reducible exact HST.out HS9A.out (below_alloc (Below.refl _ _) _) | with_reducible exact HST.out HS8A.out (below_alloc (Below.refl _ _) _) | with_reducible exact HST.out (by assumption) (below_alloc (Below.refl _ _) _) | with_reducible exact HST.out (by assumption) (below_drew (Below.refl _ _)))
    (first
      | (have hgd := HS10A; clear hgd; go_at_call 19; refine (same_yes (HM3.out.step (by first | exact Below.refl _ _ | exact below_drew (Below.refl _ _))) (HQ.out.1.step (by first | exact Below.refl _ _ | exact below_drew (Below.refl _ _))) (Kd.C_below HQ.out.2 (by first | exact Below.refl _ _ | exact below_drew (Below.refl _ _))) rfl rfl HW.out.2.2.2.2.1 (by omega) HW.out.2.2.2.2.2 (by omega)).mono ?_; rintro e w11 ⟨rfl, hb11⟩; have hS11 := HST.out (by assumption) hb11; have HS11A := Aside0.mk hS11; clear hb11; clear hS11)
      | (have hgd := HS9A; clear hgd; go_at_call 27; refine (dmin_is (Ha7.out.rd.step (HSB.out (by assumption))) (Kd.C_below Ha7.out.d (HSB.out (by assumption))) rfl rfl HFx.out.2.1 HFx.out.2.2.rt.r (by omega) (by omega) (Kd.C_below HV.out (below_then HB7.out HB7.out.size (HSB.out (by assumption)))) rfl HW.out.1 HW.out.2.2.1).mono ?_; rintro e w10 ⟨Aq, cq, Dq, dq, Eq, eq, rfl, hq1, hq2, hb10⟩; have hS10 := HST.out (by assumption) hb10; have HS10A := Aside0.mk hS10; have HM3 := Aside0.mk ((HMn.out.step (by first | exact Below.refl _ _ | exact below_drew (Below.refl _ _))).step hb10); have HQ := Aside0.mk (And.intro hq1 hq2); clear hq1 hq2 hb10; clear hS10)
      | (have hgd := HS8A; clear hgd; go_at_call 26; refine (min_vars (k2 := R2.length) (HN.out.step (by first | exact Below.refl _ _ | exact below_drew (Below.refl _ _))) rfl rfl HFx.out.2.1 (by omega) (by omega) (Kd.C_below HV.out (below_then HB7.out HB7.out.size (HSB.out (by assumption)))) rfl (by omega) HW.out.1 (by omega) HW.out.2.2.1 rfl rfl HW.out.2.2.2.2.1).mono ?_; rintro e w9 ⟨Am, cm, Dm, dm, Em, em, rfl, hm, hb9⟩; have hS9 := HST.out (by assumption) hb9; have HS9A := Aside0.mk hS9; have HMn := Aside0.mk hm.rd; clear hm hb9; clear hS9)
      | (go_at_call 16; refine (number_dw (Ha7.out.rd.step (HSB.out (by assumption))) rfl rfl (Kd.C_below Ha7.out.d (HSB.out (by assumption))) (by omega) HFx.out.2.1).mono ?_; rintro e w8 ⟨En, en, rfl, hn, hb8⟩; have hS8 := HST.out (by assumption) hb8; have HS8A := Aside0.mk hS8; have HN := Aside0.mk hn; clear hn hb8; clear hS8))
  all_goals
    go_wp2
    go_ret
    exact ⟨rfl, below_then HB7.out HB7.out.size (HSB.out HS11A.out)⟩
set_option maxHeartbeats 8000000 in
set_option maxRecDepth 100000 in
theorem weighsums_no (A0 : Option Addr) (c0 : Nat) (sx : List Int) (B0 : Option Addr) (d0 : Nat) (rx : List (List Int)) (E0 : Option Addr) (e0 : Nat) (ax : List Int) (F0 : Option Addr) (n0 f0 : Nat) (A1 : Option Addr) (c1 : Nat) (v : List Int) (w : World) (hr0 : RelRd w A0 c0 sx B0 d0 rx) (ha0 : Kd.C KI w E0 ax.length ax) (hn0 : n0 ≤ 9223372036854775807) (hr1 : Kd.C KI w A1 v.length v) (hc1 : v.length ≤ c1) (htab : Tab w) (hPP : ∀ s R ws, smallS3 sx = s → smallRows3 s.length rx = R → (List.range R.length).map (refV 4611686018427387904 ax) = ws → ¬ ∀ l ∈ partedTo ⟨s, R, ws⟩ (projRel s R (v.take 6)).1 (projRel s R (v.take 6)).2, tot l ≤ 4611686018427387904) :
    Calls Tryz.prog 5 #[.agg #[.slice A0 sx.length c0, .slice B0 rx.length d0, .slice E0 ax.length e0, .slice F0 n0 f0], .slice A1 v.length c1] w fun e w' => e = .returned (.bool true) ∧ Below w.heap.size w w' := by
  have HT := Aside0.mk htab
  clear htab
  obtain ⟨sx', hs⟩ : ∃ s, smallS3 sx = s := ⟨_, rfl⟩
  obtain ⟨Rx, hR⟩ : ∃ R, smallRows3 sx'.length rx = R := ⟨_, rfl⟩
  obtain ⟨wx, hw⟩ : ∃ ws, (List.range Rx.length).map (refV 4611686018427387904 ax) = ws := ⟨_, rfl⟩
  have HFx := Aside0.mk (big_of hs hR hw)
  have HEx := Aside0.mk (And.intro hs (And.intro hR hw))
  have hRlx : Rx.length ≤ 12 := HFx.out.2.2.l
  clear hs hR hw
  obtain ⟨hcut1, hcut2, hcut3⟩ := cutm 6 (Q := 6) rfl A1 c1 v hc1
  have hVl : (v.take 6).length ≤ 6 := by simp; omega
  have hvt : v.take 6 = v.take 6 := rfl
  obtain ⟨V, hV⟩ : ∃ V, v.take 6 = V := ⟨_, rfl⟩
  have hP0 := hPP _ _ _ HEx.out.1 HEx.out.2.1 HEx.out.2.2
  rw [hV] at hcut1 hcut2 hcut3 hVl hP0
  clear hvt hV
  obtain ⟨on, R2, hP⟩ : ∃ on R2, projRel sx' Rx V = (on, R2) := ⟨_, _, rfl⟩
  rw [hP] at hP0
  have hon : on = onto sx' V := (Prod.mk.inj hP).1.symm
  have hR2 : R2 = cutRows sx' Rx on := by rw [hon]; exact (Prod.mk.inj hP).2.symm
  obtain ⟨S2, hS2⟩ : ∃ S2, (partedTo ⟨sx', Rx, wx⟩ on R2).map List.sum = S2 := ⟨_, rfl⟩
  obtain ⟨M2, hM2⟩ : ∃ M2, (partedTo ⟨sx', Rx, wx⟩ on R2).map least = M2 := ⟨_, rfl⟩
  have hS2l : S2.length = R2.length := by rw [← hS2]; simp [partedTo]
  have hM2l : M2.length = R2.length := by rw [← hM2]; simp [partedTo]
  have hol : on.length ≤ 3 := by rw [hon, onto_eq _ _ HFx.out.2.2.rt.r.1.1]; exact Nat.le_trans (List.length_filter_le _ _) HFx.out.2.2.s
  have hR2l : R2.length ≤ 12 := by rw [hR2]; exact Nat.le_trans (cutRows_len _ _ _) HFx.out.2.2.l
  have hos : ∀ q ∈ on, q ∈ sx' := fun q hq => by rw [hon, onto_eq _ _ HFx.out.2.2.rt.r.1.1] at hq; exact memF hq
  have hRx : ∀ x ∈ R2, x.length ≤ 1000000 := fun x hx => by rw [hR2] at hx; rw [cut_row sx' Rx on HFx.out.2.2.rt.r.2.1 hos x hx]; omega
  have HV := Aside0.mk (hcut2 w hr1)
  have HW := Aside0.mk (And.intro hP (And.intro hS2 (And.intro hM2 (And.intro hS2l (And.intro hM2l hRx)))))
  have HPP := Aside0.mk hP0
  have hlow : sx'.length ≤ 3 := HFx.out.2.2.s
  clear hP hon hR2 hS2 hM2 hS2l hM2l hos hRx hP0 hPP hr1
  have hp0 := P4Bx.new (Ab := F0) (nb := n0) (cb := f0) hr0 ha0 (ca := e0)
  have HB0 := Aside0.mk (below_alloc (Below.refl w.heap.size w) (.cells #[.slice A0 sx.length c0, .slice B0 rx.length d0, .slice E0 ax.length e0, .slice F0 n0 f0] 26))
  have Hx0 := Aside0.mk hp0
  clear hp0 hr0 ha0
  have yx0_0 : World.cell? _ ⟨w.heap.size, 0, none⟩ = some (.slice A0 sx.length c0) := (blk4_c Hx0.out.blk).1
  have yx1_0 : World.cell? _ ⟨w.heap.size, 1, none⟩ = some (.slice B0 rx.length d0) := (blk4_c Hx0.out.blk).2.1
  have yx2_0 : World.cell? _ ⟨w.heap.size, 2, none⟩ = some (.slice E0 ax.length e0) := (blk4_c Hx0.out.blk).2.2.1
  have yx3_0 : World.cell? _ ⟨w.heap.size, 3, none⟩ = some (.slice F0 n0 f0) := (blk4_c Hx0.out.blk).2.2.2
  go_enter Tryz.func5, Tryz.ntmps5
  go_upto_region 2 with (go_at_call 12; refine (shown4_any _ (HT.out.step HB0.out)).mono ?_; rintro e w1 ⟨rfl, hb⟩; have HB1 := Aside0.mk (below_then HB0.out HB0.out.size hb); have Hx1 := Aside0.mk (Hx0.out.step hb); have yx0_1 : World.cell? _ ⟨w.heap.size, 0, none⟩ = some (.slice A0 sx.length c0) := (blk4_c Hx1.out.blk).1; have yx1_1 : World.cell? _ ⟨w.heap.size, 1, none⟩ = some (.slice B0 rx.length d0) := (blk4_c Hx1.out.blk).2.1; have yx2_1 : World.cell? _ ⟨w.heap.size, 2, none⟩ = some (.slice E0 ax.length e0) := (blk4_c Hx1.out.blk).2.2.1; have yx3_1 : World.cell? _ ⟨w.heap.size, 3, none⟩ = some (.slice F0 n0 f0) := (blk4_c Hx1.out.blk).2.2.2; clear hb yx0_0 yx1_0 yx2_0 yx3_0)
  go_upto_region 3 with (go_at_call 13; refine (limits_any _).mono ?_; rintro e w2 ⟨rfl, hb⟩; have HB2 := Aside0.mk (below_then HB1.out HB1.out.size hb); have Hx2 := Aside0.mk (Hx1.out.step hb); have yx0_2 : World.cell? _ ⟨w.heap.size, 0, none⟩ = some (.slice A0 sx.length c0) := (blk4_c Hx2.out.blk).1; have yx1_2 : World.cell? _ ⟨w.heap.size, 1, none⟩ = some (.slice B0 rx.length d0) := (blk4_c Hx2.out.blk).2.1; have yx2_2 : World.cell? _ ⟨w.heap.size, 2, none⟩ = some (.slice E0 ax.length e0) := (blk4_c Hx2.out.blk).2.2.1; have yx3_2 : World.cell? _ ⟨w.heap.size, 3, none⟩ = some (.slice F0 n0 f0) := (blk4_c Hx2.out.blk).2.2.2; clear hb yx0_1 yx1_1 yx2_1 yx3_1)
  go_upto_region 5 with (go_at_call 14; refine (ref_is (n' := Rx.length) Hx2.out 4611686018427387904 (by decide) (by decide) hn0 HEx.out.1 HEx.out.2.1 rfl rfl).mono ?_; rintro e w3 ⟨Aa, ca, Da, da, Ea, ea, rfl, hM, hD, hb⟩; have hx := below_box hb (.cells #[.slice Aa sx'.length ca, .slice Da Rx.length da, .slice Ea Rx.length ea] 34); have HB3 := Aside0.mk (below_then HB2.out HB2.out.size hx); have Ha3 := Aside0.mk (DBx.new (n := sx'.length) (n' := Rx.length) (c4 := ea) (D := dW wx) hM (by rw [refW_dW, HEx.out.2.2] at hD; exact hD)); have ya0_3 : World.cell? _ ⟨w3.heap.size, 0, none⟩ = some (.slice Aa sx'.length ca) := (blk3_c Ha3.out.blk).1; have ya1_3 : World.cell? _ ⟨w3.heap.size, 1, none⟩ = some (.slice Da Rx.length da) := (blk3_c Ha3.out.blk).2.1; have ya2_3 : World.cell? _ ⟨w3.heap.size, 2, none⟩ = some (.slice Ea Rx.length ea) := (blk3_c Ha3.out.blk).2.2; clear hM hD hb hx yx0_2 yx1_2 yx2_2 yx3_2)
  go_upto_region 6 with (first
      | (have hgd := HB4; clear hgd; go_at_call 25; refine (sum_no Hnn4.out rfl rfl HFx.out.2.1 (by omega) HFx.out.1 (by omega) (Kd.C_below HV.out HB4.out) rfl (by omega) HW.out.1 (by omega) (fun h => HPP.out h)).mono ?_; rintro e w5 ⟨As, cs, Ds, ds, Es, es, rfl, hM, hb⟩; have hx := below_box hb (.cells #[.slice As 0 cs, .slice Ds 0 ds, .slice Es 0 es] 37); have HB5 := Aside0.mk (below_then HB4.out HB4.out.size hx); have Ha5 := Aside0.mk (Ha4.out.step hx); have Hs5 := Aside0.mk (WBx.new hM.rd rfl rfl rfl); have ya0_5 : World.cell? _ ⟨w3.heap.size, 0, none⟩ = some (.slice Aa sx'.length ca) := (blk3_c Ha5.out.blk).1; have ya1_5 : World.cell? _ ⟨w3.heap.size, 1, none⟩ = some (.slice Da Rx.length da) := (blk3_c Ha5.out.blk).2.1; have ya2_5 : World.cell? _ ⟨w3.heap.size, 2, none⟩ = some (.slice Ea Rx.length ea) := (blk3_c Ha5.out.blk).2.2; have ys0_5 : World.cell? _ ⟨w5.heap.size, 0, none⟩ = some (.slice As 0 cs) := (blk3_c Hs5.out.blk).1; have ys1_5 : World.cell? _ ⟨w5.heap.size, 1, none⟩ = some (.slice Ds 0 ds) := (blk3_c Hs5.out.blk).2.1; have ys2_5 : World.cell? _ ⟨w5.heap.size, 2, none⟩ = some (.slice Es 0 es) := (blk3_c Hs5.out.blk).2.2; clear hM hb hx ya0_4 ya1_4 ya2_4)
      | (go_at_call 16; refine (number_dw Ha3.out.rd rfl rfl Ha3.out.d (by omega) HFx.out.2.1).mono ?_; rintro e w4 ⟨En, en, rfl, hM, hb⟩; have HB4 := Aside0.mk (below_then HB3.out HB3.out.size hb); have Ha4 := Aside0.mk (Ha3.out.step hb); have Hnn4 := Aside0.mk (hM); have ya0_4 : World.cell? _ ⟨w3.heap.size, 0, none⟩ = some (.slice Aa sx'.length ca) := (blk3_c Ha4.out.blk).1; have ya1_4 : World.cell? _ ⟨w3.heap.size, 1, none⟩ = some (.slice Da Rx.length da) := (blk3_c Ha4.out.blk).2.1; have ya2_4 : World.cell? _ ⟨w3.heap.size, 2, none⟩ = some (.slice Ea Rx.length ea) := (blk3_c Ha4.out.blk).2.2; clear hM hb ya0_3 ya1_3 ya2_3))
  clear hcut1
  go_upto_region 7 with (go_at_call 23; refine (dsum_no Ha5.out.rd Ha5.out.d rfl rfl HFx.out.2.1 HFx.out.1 HFx.out.2.2.rt.r (by omega) (by omega) (Kd.C_below HV.out HB5.out) rfl HW.out.1 (fun h => HPP.out h)).mono ?_; rintro e w6 ⟨rfl, hb⟩; have hx := below_box hb (.cells #[.slice none 0 0, .slice none 0 0, .slice none 0 0] 34); have HB6 := Aside0.mk (below_then HB5.out HB5.out.size hx); have Ha6 := Aside0.mk (Ha5.out.step hx); have Hs6 := Aside0.mk (Hs5.out.step hx); have ya0_6 : World.cell? _ ⟨w3.heap.size, 0, none⟩ = some (.slice Aa sx'.length ca) := (blk3_c Ha6.out.blk).1; have ya1_6 : World.cell? _ ⟨w3.heap.size, 1, none⟩ = some (.slice Da Rx.length da) := (blk3_c Ha6.out.blk).2.1; have ya2_6 : World.cell? _ ⟨w3.heap.size, 2, none⟩ = some (.slice Ea Rx.length ea) := (blk3_c Ha6.out.blk).2.2; have ys0_6 : World.cell? _ ⟨w5.heap.size, 0, none⟩ = some (.slice As 0 cs) := (blk3_c Hs6.out.blk).1; have ys1_6 : World.cell? _ ⟨w5.heap.size, 1, none⟩ = some (.slice Ds 0 ds) := (blk3_c Hs6.out.blk).2.1; have ys2_6 : World.cell? _ ⟨w5.heap.size, 2, none⟩ = some (.slice Es 0 es) := (blk3_c Hs6.out.blk).2.2; clear hb hx ya0_5 ya1_5 ya2_5 ys0_5 ys1_5 ys2_5)
  go_upto_region 9 with fail
  clear ya0_6 ya1_6 ya2_6 ys0_6 ys1_6 ys2_6
  generalize (w6.alloc (.cells #[.slice none 0 0, .slice none 0 0, .slice none 0 0] 34)) = WA at HB6 Ha6 ⊢
  generalize w3.heap.size = ga at Ha6 ⊢
  have HST := Aside0.mk (show ∀ {W W1 : World}, (W.cell? ⟨ga, 0, none⟩ = some (.slice Aa sx'.length ca) ∧ W.cell? ⟨ga, 1, none⟩ = some (.slice Da Rx.length da) ∧ W.cell? ⟨ga, 2, none⟩ = some (.slice Ea Rx.length ea) ∧ Below WA.heap.size WA W) → Below W.heap.size W W1 → (W1.cell? ⟨ga, 0, none⟩ = some (.slice Aa sx'.length ca) ∧ W1.cell? ⟨ga, 1, none⟩ = some (.slice Da Rx.length da) ∧ W1.cell? ⟨ga, 2, none⟩ = some (.slice Ea Rx.length ea) ∧ Below WA.heap.size WA W1) from fun {W W1} h hb => ⟨(hb.cell (World.block_lt_of_cell? W _ h.1)).trans h.1, (hb.cell (World.block_lt_of_cell? W _ h.2.1)).trans h.2.1, (hb.cell (World.block_lt_of_cell? W _ h.2.2.1)).trans h.2.2.1, below_then h.2.2.2 h.2.2.2.size hb⟩)
  have HSE := Aside0.mk (show ∀ {W : World} {g : Nat} (i : Nat) (u : Value), (W.cell? ⟨ga, 0, none⟩ = some (.slice Aa sx'.length ca) ∧ W.cell? ⟨ga, 1, none⟩ = some (.slice Da Rx.length da) ∧ W.cell? ⟨ga, 2, none⟩ = some (.slice Ea Rx.length ea) ∧ Below WA.heap.size WA W) → WA.heap.size ≤ g → ((W.setCell ⟨g, i, none⟩ u).cell? ⟨ga, 0, none⟩ = some (.slice Aa sx'.length ca) ∧ (W.setCell ⟨g, i, none⟩ u).cell? ⟨ga, 1, none⟩ = some (.slice Da Rx.length da) ∧ (W.setCell ⟨g, i, none⟩ u).cell? ⟨ga, 2, none⟩ = some (.slice Ea Rx.length ea) ∧ Below WA.heap.size WA (W.setCell ⟨g, i, none⟩ u)) from fun {W g} i u h hg => ⟨cell_set_ne h.1 (by have hl := (Array.getElem?_eq_some_iff.1 Ha6.out.blk).1; show (ga : Nat) ≠ g; omega) i u, cell_set_ne h.2.1 (by have hl := (Array.getElem?_eq_some_iff.1 Ha6.out.blk).1; show (ga : Nat) ≠ g; omega) i u, cell_set_ne h.2.2.1 (by have hl := (Array.getElem?_eq_some_iff.1 Ha6.out.blk).1; show (ga : Nat) ≠ g; omega) i u, h.2.2.2.setCell (p := ⟨g, i, none⟩) hg u⟩)
  have HSB := Aside0.mk (show ∀ {W : World}, (W.cell? ⟨ga, 0, none⟩ = some (.slice Aa sx'.length ca) ∧ W.cell? ⟨ga, 1, none⟩ = some (.slice Da Rx.length da) ∧ W.cell? ⟨ga, 2, none⟩ = some (.slice Ea Rx.length ea) ∧ Below WA.heap.size WA W) → Below WA.heap.size WA W from fun {W} h => h.2.2.2)
  have HS0A := Aside0.mk (show (WA.cell? ⟨ga, 0, none⟩ = some (.slice Aa sx'.length ca) ∧ WA.cell? ⟨ga, 1, none⟩ = some (.slice Da Rx.length da) ∧ WA.cell? ⟨ga, 2, none⟩ = some (.slice Ea Rx.length ea) ∧ Below WA.heap.size WA WA) from ⟨(blk3_c Ha6.out.blk).1, (blk3_c Ha6.out.blk).2.1, (blk3_c Ha6.out.blk).2.2, Below.refl _ _⟩)
  have HSDA := Aside0.mk (HST.out HS0A.out (below_drew (Below.refl _ _)))
  have qq0 := HS0A.out.1
  have qq1 := HS0A.out.2.1
  have qq2 := HS0A.out.2.2.1
  go_region_held3 (fun W => W.cell? ⟨ga, 0, none⟩ = some (.slice Aa sx'.length ca) ∧ W.cell? ⟨ga, 1, none⟩ = some (.slice Da Rx.length da) ∧ W.cell? ⟨ga, 2, none⟩ = some (.slice Ea Rx.length ea) ∧ Below WA.heap.size WA W)
    (first | with_reducible exact HS10A.out | with_reducible exact HS9A.out | with_reducible exact HS8A.out | with_reducible exact HS7A.out | with_reducible exact HSDA.out | with_reducible exact HS0A.out | with_reducible exact HST.out HS10A.out (below_alloc (Below.refl _ _) _) | with_reducible exact HST.out HS9A.out (below_alloc (Below.refl _ _) _) | with_reducible exact HST.out HS8A.out (below_alloc (Below.refl _ _) _) | with_reducible exact HST.out HS7A.out (below_alloc (Below.refl _ _) _) | with_reducible exact HST.out (by assumption) (below_alloc (Below.refl _ _) _) | with_reducible exact HST.out (by assumption) (below_drew (Below.refl _ _)))
    (first
      | (have hgd := HS9A; clear hgd; go_at_call 19; refine (same_yes (HM3.out.step (by first | exact Below.refl _ _ | exact below_drew (Below.refl _ _))) (HQ.out.1.step (by first | exact Below.refl _ _ | exact below_drew (Below.refl _ _))) (Kd.C_below HQ.out.2 (by first | exact Below.refl _ _ | exact below_drew (Below.refl _ _))) rfl rfl HW.out.2.2.2.2.1 (by omega) HW.out.2.2.2.2.2 (by omega)).mono ?_; rintro e w10 ⟨rfl, hb10⟩; have hS10 := HST.out (by assumption) hb10; have HS10A := Aside0.mk hS10; clear hb10; clear hS10)
      | (have hgd := HS8A; clear hgd; go_at_call 27; refine (dmin_is (Ha6.out.rd.step (HSB.out (by assumption))) (Kd.C_below Ha6.out.d (HSB.out (by assumption))) rfl rfl HFx.out.2.1 HFx.out.2.2.rt.r (by omega) (by omega) (Kd.C_below HV.out (below_then HB6.out HB6.out.size (HSB.out (by assumption)))) rfl HW.out.1 HW.out.2.2.1).mono ?_; rintro e w9 ⟨Aq, cq, Dq, dq, Eq, eq, rfl, hq1, hq2, hb9⟩; have hS9 := HST.out (by assumption) hb9; have HS9A := Aside0.mk hS9; have HM3 := Aside0.mk ((HMn.out.step (by first | exact Below.refl _ _ | exact below_drew (Below.refl _ _))).step hb9); have HQ := Aside0.mk (And.intro hq1 hq2); clear hq1 hq2 hb9; clear hS9)
      | (have hgd := HS7A; clear hgd; go_at_call 26; refine (min_vars (k2 := R2.length) (HN.out.step (by first | exact Below.refl _ _ | exact below_drew (Below.refl _ _))) rfl rfl HFx.out.2.1 (by omega) (by omega) (Kd.C_below HV.out (below_then HB6.out HB6.out.size (HSB.out (by assumption)))) rfl (by omega) HW.out.1 (by omega) HW.out.2.2.1 rfl rfl HW.out.2.2.2.2.1).mono ?_; rintro e w8 ⟨Am, cm, Dm, dm, Em, em, rfl, hm, hb8⟩; have hS8 := HST.out (by assumption) hb8; have HS8A := Aside0.mk hS8; have HMn := Aside0.mk hm.rd; clear hm hb8; clear hS8)
      | (go_at_call 16; refine (number_dw (Ha6.out.rd.step (HSB.out (by assumption))) rfl rfl (Kd.C_below Ha6.out.d (HSB.out (by assumption))) (by omega) HFx.out.2.1).mono ?_; rintro e w7 ⟨En, en, rfl, hn, hb7⟩; have hS7 := HST.out (by assumption) hb7; have HS7A := Aside0.mk hS7; have HN := Aside0.mk hn; clear hn hb7; clear hS7))
  all_goals
    go_wp2
    go_ret
    exact ⟨rfl, below_then HB6.out HB6.out.size (HSB.out HS10A.out)⟩
theorem weighsums_walk (A0 : Option Addr) (c0 : Nat) (sx : List Int) (B0 : Option Addr) (d0 : Nat) (rx : List (List Int)) (E0 : Option Addr) (e0 : Nat) (ax : List Int) (F0 : Option Addr) (n0 f0 : Nat) (A1 : Option Addr) (c1 : Nat) (v : List Int) (w : World) (hr0 : RelRd w A0 c0 sx B0 d0 rx) (ha0 : Kd.C KI w E0 ax.length ax) (hn0 : n0 ≤ 9223372036854775807) (hr1 : Kd.C KI w A1 v.length v) (hc1 : v.length ≤ c1) (htab : Tab w) :
    Calls Tryz.prog 5 #[.agg #[.slice A0 sx.length c0, .slice B0 rx.length d0, .slice E0 ax.length e0, .slice F0 n0 f0], .slice A1 v.length c1] w fun e w' => e = .returned (.bool true) ∧ Below w.heap.size w w' := by
  by_cases h : ∀ l ∈ partedTo ⟨smallS3 sx, smallRows3 (smallS3 sx).length rx, (List.range (smallRows3 (smallS3 sx).length rx).length).map (refV 4611686018427387904 ax)⟩ (projRel (smallS3 sx) (smallRows3 (smallS3 sx).length rx) (v.take 6)).1 (projRel (smallS3 sx) (smallRows3 (smallS3 sx).length rx) (v.take 6)).2, tot l ≤ 4611686018427387904
  · exact weighsums_yes A0 c0 sx B0 d0 rx E0 e0 ax F0 n0 f0 A1 c1 v w hr0 ha0 hn0 hr1 hc1 htab (fun s R ws h1 h2 h3 => by subst h1 h2 h3; exact h)
  · exact weighsums_no A0 c0 sx B0 d0 rx E0 e0 ax F0 n0 f0 A1 c1 v w hr0 ha0 hn0 hr1 hc1 htab (fun s R ws h1 h2 h3 => by subst h1 h2 h3; exact h)
end Go.Proofs.YtlmkgghpaaadhaaGreatDoor.G

namespace Go.Proofs.YtlmkgghpaaadhaaGreatDoor.weighSums
open Go.ChangeShapes Go.WideShapes Go.ChangeAt Go.RowKit Go.Proofs.YtlmkgghpaaadhaaGreatDoorW.PrintWords Go.Proofs.YtlmkgghpaaadhaaGreatDoorW.PrintLast Go.Proofs.YtlmkgghpaaadhaaGreatDoorW.PrintMore Go.Proofs.YtlmkgghpaaadhaaGreatDoor.PRefs
set_option linter.unusedVariables false
theorem own : ownKnob Tryz.prog.godebug = none := by kernel_rfl
theorem laidOut : laidOutB Tryz.prog = true := by kernel_rfl
set_option maxRecDepth 100000 in
theorem lifted (os : Os) (started : os.Started) (H : Type) (enc : TypeId × Value → H) :
    ReturnsInHanded {} Tryz.checked os 5 .any (fun w args => (Rows.weighSumsSpec.pre enc Tryz.prog Tryz.f5 [] false w args ∧ laidMetH Tryz.prog G.laidList w) ∧ sizedMet enc Tryz.prog Tryz.f5 (OpenSpec.ofChange Rows.weighSumsSpec) false w args)
      (Rows.weighSumsSpec.post enc Tryz.prog Tryz.f5 false true false false) := by
  refine returnsInHanded_of_change_and (C := Tryz.checked) (X := fun w _ => laidMetH Tryz.prog G.laidList w) (fun _ _ _ hh h => h.of_heap hh) own started (by kernel_rfl) Tryz.func5
    (ChangeSpec.witness_shaped (enc := enc) (C := Tryz.checked) (os := os) (X := fun w _ => laidMetH Tryz.prog G.laidList w) false (World.doorLaid Tryz.prog 400 os) #[.agg #[.slice none 0 0, .slice none 0 0, .slice none 0 0, .slice none 0 0], .slice none 0 0] 8 rfl (World.shaped_of_RefB (by kernel_rfl) (by kernel_rfl)) (by kernel_rfl) (by kernel_rfl) (by kernel_rfl) (G.door_met os _)) ?_
  intro W base args ds gs before hval0 hW _ _ hL _
  have htab := G.tab_of hL
  have hval : ∀ (j : Nat) t v, Tryz.f5.params[j]? = some t → args[j]? = some v → Value.okWide Tryz.prog W .any base t v := hval0
  have hW' := hW
  obtain ⟨p, q, hA0, hV, rfl, hfz, hnd⟩ := hW
  have hA : DataW.TrodAll enc Tryz.prog W 0 (fun _ => true) true Tryz.f5.params.toList args.toList ds p := hA0
  rw [Tryz.params5] at hA hval
  obtain ⟨v0, vs0, d0, ds0, p0, q0, hargs, rfl, rfl, h0, r0⟩ := trodAll_cons hA
  obtain ⟨v1, vs1, d1, ds1, p1, q1, rfl, rfl, rfl, h1, r1⟩ := trodAll_cons r0
  obtain ⟨rfl, rfl, rfl⟩ := trodAll_nil r1
  obtain rfl : args = #[v0, v1] := by cases args; simp_all
  obtain ⟨rfl, rfl⟩ := trodVars_none hV
  obtain ⟨cs0, rfl, hcs0⟩ := okWide_struct Tryz.underlying26 (hval 0 26 v0 rfl rfl)
  obtain ⟨a1, len1, cap1, rfl⟩ := okWide_slice Tryz.underlying22 (hval 1 22 v1 rfl rfl)
  have k0 := h0
  have lt0 : ∀ x ∈ p0, x.block < W.heap.size := by obtain ⟨m, hm⟩ := k0; exact DataW.trod_lt m _ _ _ hm
  have k1 := h1
  have lt1 : ∀ x ∈ p1, x.block < W.heap.size := by obtain ⟨m, hm⟩ := k1; exact DataW.trod_lt m _ _ _ hm
  obtain ⟨a0, cap0, z0, ar0, capr0, zr0, ab0, capb0, zb0, ac0, nc0, capc0, rfl, c0, b0, m0⟩ := (by obtain ⟨m, hm⟩ := h0; exact G.in_part4 hm : ∃ A c sc A' c' L Aa ca xA Ab nb cb, cs0 = #[.slice A sc.length c, .slice A' L.length c', .slice Aa xA.length ca, .slice Ab nb cb] ∧ G.RelRd W A c sc A' c' L ∧ Kd.C G.KI W Aa xA.length xA ∧ nb ≤ 9223372036854775807)
  obtain ⟨z1, e1, l1, c1⟩ : ∃ xs : List Int, xs.length = len1 ∧ len1 ≤ cap1 ∧ Kd.C G.KI W a1 xs.length xs := by obtain ⟨m, hm⟩ := h1; exact G.in_ints hm
  clear hA0 hval0
  subst e1
  refine (G.weighsums_walk a0 cap0 z0 ar0 capr0 zr0 ab0 capb0 zb0 ac0 nc0 capc0 a1 cap1 z1 W c0 b0 m0 c1 l1 htab).mono fun e W' ⟨he, bel⟩ => ?_
  subst he
  exact ⟨_, rfl, _, _, _, [], _, [], hW', trodAll_mk1 (shut_bool Tryz.underlying4 _), (trodAll_cons_mk (Below.trod laidOut (by kernel_rfl) (of_decide_eq_true (by kernel_rfl)) k0 bel lt0) (trodAll_cons_mk (Below.trod laidOut (by kernel_rfl) (of_decide_eq_true (by kernel_rfl)) k1 bel lt1) trodAll_mk0)), rfl, bel.frame _, fun h => by cases h⟩
theorem over : Rows.weighSumsRow.holds Tryz.pinned (OpenSpec.ofChange Rows.weighSumsSpec) :=
  OpenClaim.holds_of_wide 5 Tryz.f5 rfl rfl rfl rfl rfl rfl rfl ⟨rfl, rfl, rfl, rfl, rfl⟩ rfl rfl rfl rfl rfl (by kernel_rfl) Tryz.func5 (by kernel_rfl)
    (of_decide_eq_true (by kernel_rfl)) (by unfold Func.isWrapper; first | (rw [if_pos (by decide +kernel)]; kernel_rfl) | (rw [if_neg (by decide +kernel)]; exact ⟨rfl, rfl⟩))
    (fun os started H enc _ => lifted os started H enc)
theorem proved : Rows.WeighSumsCardSaid :=
  Claim7.holds_tied_plain_at .later [] [.data, .data, .data] true Rows.weighSumsCard.stood.harness true
    over (fun _ h => by cases h) (by kernel_rfl) (fun _ h => by cases h) weighSums_row_tie rfl ⟨rfl, rfl⟩ (by kernel_rfl) rfl
    (fun f fn hf hfn => by
      obtain rfl : f = 5 := Option.some.inj ((show Tryz.prog.funcNamed "arborist/arboristlaw04.WeighSums" = some 5 by kernel_rfl).symm.trans hf) |>.symm
      obtain rfl : fn = Tryz.f5 := (Option.some.inj (Tryz.func5.symm.trans hfn)).symm
      exact ⟨by kernel_rfl, fun j t ht => by
        rw [Tryz.params5] at ht
        have hm : t ∈ [26, 22] := by simpa using Array.mem_of_getElem? ht
        have hall : ([26, 22].all fun u => !Tryz.prog.wantsStandIn u) = true := by kernel_rfl
        exact (show Tryz.prog.wantsStandIn t = false by simpa using List.all_eq_true.1 hall t hm)⟩)
    (by kernel_rfl)
#print axioms proved
end Go.Proofs.YtlmkgghpaaadhaaGreatDoor.weighSums
