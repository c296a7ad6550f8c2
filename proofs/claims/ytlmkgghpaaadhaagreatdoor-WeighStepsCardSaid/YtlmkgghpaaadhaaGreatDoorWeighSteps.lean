/- Proved: for every input the law arboristlaw04.WeighSteps returns true and its arguments read as they did; what the program's tables hold at the start is tied to the program's text. No condition. -/
import Derived.Test.YtlmkgghpaaadhaaGreatDoorRows
import Derived.Test.YtlmkgghpaaadhaaGreatDoorCards
import Derived.Test.YtlmkgghpaaadhaaGreatDoorTie
import Derived.Test.YtlmkgghpaaadhaaGreatDoorNA
import Derived.Deep.Matrix
import Derived.ProofKit
import Derived.OpenShut
import Derived.WalkKit
import Derived.ShutString
import Derived.ChangeOld
import Derived.Below
import Derived.SevenTiedAt
import Derived.Stop.Joined
import Derived.Deep.DeepCutAuto
set_option linter.unusedVariables false
set_option linter.unusedSimpArgs false
namespace Go.Proofs.YtlmkgghpaaadhaaGreatDoor.G
open Go.RowKit Go.Proofs.YtlmkgghpaaadhaaGreatDoorW.PrintWords Go.Proofs.YtlmkgghpaaadhaaGreatDoorW.PrintLast Go.Proofs.YtlmkgghpaaadhaaGreatDoorW.PrintMore Go.Proofs.YtlmkgghpaaadhaaGreatDoor.PRefs
attribute [local go_sem] min2_mn min_two

set_option maxHeartbeats 8000000 in
set_option maxRecDepth 100000 in
theorem weighsteps_walk (A0 : Option Addr) (c0 : Nat) (sx : List Int) (B0 : Option Addr) (d0 : Nat) (rx : List (List Int)) (E0 : Option Addr) (e0 : Nat) (ax : List Int) (F0 : Option Addr) (n0 f0 : Nat) (A1 : Option Addr) (c1 : Nat) (v : List Int) (w : World) (hr0 : RelRd w A0 c0 sx B0 d0 rx) (ha0 : Kd.C KI w E0 ax.length ax) (hn0 : n0 ≤ 9223372036854775807) (hr1 : Kd.C KI w A1 v.length v) (hc1 : v.length ≤ c1) (htab : Tab w) :
    Calls Tryz.prog 8 #[.agg #[.slice A0 sx.length c0, .slice B0 rx.length d0, .slice E0 ax.length e0, .slice F0 n0 f0], .slice A1 v.length c1] w fun e w' => e = .returned (.bool true) ∧ Below w.heap.size w w' := by
  have HT := Aside0.mk htab
  clear htab
  obtain ⟨sx', hs⟩ : ∃ s, smallS3 sx = s := ⟨_, rfl⟩
  obtain ⟨Rx, hR⟩ : ∃ R, smallRows3 sx'.length rx = R := ⟨_, rfl⟩
  obtain ⟨wx, hw⟩ : ∃ ws, (List.range Rx.length).map (refV 999 ax) = ws := ⟨_, rfl⟩
  have HFx := Aside0.mk (few4_of (by decide) (by decide) hs hR hw)
  have HEx := Aside0.mk (And.intro hs (And.intro hR hw))
  have hRlx : Rx.length ≤ 12 := HFx.out.2.l
  clear hs hR hw
  obtain ⟨hcut1, hcut2, hcut3⟩ := cutm 6 (Q := 6) rfl A1 c1 v hc1
  have hVl : (v.take 6).length ≤ 6 := by simp; omega
  generalize v.take 6 = V at *
  obtain ⟨on, R2, hP⟩ : ∃ on R2, projRel sx' Rx V = (on, R2) := ⟨_, _, rfl⟩
  have hon : on = onto sx' V := (Prod.mk.inj hP).1.symm
  have hR2 : R2 = cutRows sx' Rx on := by rw [hon]; exact (Prod.mk.inj hP).2.symm
  obtain ⟨S2, hS2⟩ : ∃ S2, (partedTo ⟨sx', Rx, wx⟩ on R2).map List.sum = S2 := ⟨_, rfl⟩
  obtain ⟨M2, hM2⟩ : ∃ M2, (partedTo ⟨sx', Rx, wx⟩ on R2).map least = M2 := ⟨_, rfl⟩
  have hS2l : S2.length = R2.length := by rw [← hS2]; simp [partedTo]
  have hM2l : M2.length = R2.length := by rw [← hM2]; simp [partedTo]
  have hor : Rise on := by rw [hon, onto_eq _ _ HFx.out.1.r.1.1]; exact Rise.filter HFx.out.1.r.1.1 _
  have hol : on.length ≤ 3 := by rw [hon, onto_eq _ _ HFx.out.1.r.1.1]; exact Nat.le_trans (List.length_filter_le _ _) HFx.out.2.s
  have hR2l : R2.length ≤ 12 := by rw [hR2]; exact Nat.le_trans (cutRows_len _ _ _) HFx.out.2.l
  have HV := Aside0.mk (hcut2 w hr1)
  have HW := Aside0.mk (And.intro hP (And.intro hS2 (And.intro hM2 (And.intro hS2l (And.intro hM2l hor)))))
  have htw : tot wx ≤ 4611686018427387904 := by have := HFx.out.1.tot; simp only at this; omega
  have HTW := Aside0.mk htw
  clear htw
  by_cases hN : Rx = []
  · subst hN
    obtain rfl : R2 = [] := by rw [hR2]; exact (cut_none _ _ _).2 rfl
    obtain rfl : wx = [] := List.length_eq_zero_iff.1 (by rw [HFx.out.1.l]; rfl)
    obtain rfl : S2 = [] := List.length_eq_zero_iff.1 hS2l
    obtain rfl : M2 = [] := List.length_eq_zero_iff.1 hM2l
    clear hon hR2 hS2 hM2 hS2l hM2l hP hor hr1
    have hp0 := P4Bx.new (Ab := F0) (nb := n0) (cb := f0) hr0 ha0 (ca := e0)
    have HB0 := Aside0.mk (below_alloc (Below.refl w.heap.size w) (.cells #[.slice A0 sx.length c0, .slice B0 rx.length d0, .slice E0 ax.length e0, .slice F0 n0 f0] 26))
    have Hx0 := Aside0.mk hp0
    clear hp0 hr0 ha0
    have yx0_0 : World.cell? _ ⟨w.heap.size, 0, none⟩ = some (.slice A0 sx.length c0) := (blk4_c Hx0.out.blk).1
    have yx1_0 : World.cell? _ ⟨w.heap.size, 1, none⟩ = some (.slice B0 rx.length d0) := (blk4_c Hx0.out.blk).2.1
    have yx2_0 : World.cell? _ ⟨w.heap.size, 2, none⟩ = some (.slice E0 ax.length e0) := (blk4_c Hx0.out.blk).2.2.1
    have yx3_0 : World.cell? _ ⟨w.heap.size, 3, none⟩ = some (.slice F0 n0 f0) := (blk4_c Hx0.out.blk).2.2.2
    go_enter Tryz.func8, Tryz.ntmps8
    go_upto_region 2 with (go_at_call 12; refine (shown4_any _ (HT.out.step HB0.out)).mono ?_; rintro e w1 ⟨rfl, hb⟩; have HB1 := Aside0.mk (below_then HB0.out HB0.out.size hb); have Hx1 := Aside0.mk (Hx0.out.step hb); have yx0_1 : World.cell? _ ⟨w.heap.size, 0, none⟩ = some (.slice A0 sx.length c0) := (blk4_c Hx1.out.blk).1; have yx1_1 : World.cell? _ ⟨w.heap.size, 1, none⟩ = some (.slice B0 rx.length d0) := (blk4_c Hx1.out.blk).2.1; have yx2_1 : World.cell? _ ⟨w.heap.size, 2, none⟩ = some (.slice E0 ax.length e0) := (blk4_c Hx1.out.blk).2.2.1; have yx3_1 : World.cell? _ ⟨w.heap.size, 3, none⟩ = some (.slice F0 n0 f0) := (blk4_c Hx1.out.blk).2.2.2; clear hb yx0_0 yx1_0 yx2_0 yx3_0)
    go_upto_region 4 with (first
        | (have hgd := HB2; clear hgd; go_at_call 16; refine (number_is (n' := 0) Hrr2.out rfl rfl Hdd2.out (by omega) HEx.out.2.2).mono ?_; rintro e w3 ⟨Ea, ea, rfl, hM, hb⟩; have hx := below_box hb (.cells #[.slice Aa sx'.length ca, .slice Da 0 da, .slice Ea 0 ea] 37); have HB3 := Aside0.mk (below_then HB2.out HB2.out.size hx); have Ha3 := Aside0.mk (WBx.new (n' := 0) (m := 0) hM rfl rfl (HFx.out.1.l)); have ya0_3 : World.cell? _ ⟨w3.heap.size, 0, none⟩ = some (.slice Aa sx'.length ca) := (blk3_c Ha3.out.blk).1; have ya1_3 : World.cell? _ ⟨w3.heap.size, 1, none⟩ = some (.slice Da 0 da) := (blk3_c Ha3.out.blk).2.1; have ya2_3 : World.cell? _ ⟨w3.heap.size, 2, none⟩ = some (.slice Ea 0 ea) := (blk3_c Ha3.out.blk).2.2; clear hM hb hx)
        | (go_at_call 14; refine (ref_is (n' := 0) Hx1.out 999 (by decide) (by decide) hn0 HEx.out.1 HEx.out.2.1 rfl rfl).mono ?_; rintro e w2 ⟨Aa, ca, Da, da, Er, er, rfl, hM, hD, hb⟩; have HB2 := Aside0.mk (below_then HB1.out HB1.out.size hb); have Hrr2 := Aside0.mk (hM); have Hdd2 := Aside0.mk (hD); clear hM hD hb yx0_1 yx1_1 yx2_1 yx3_1))
    go_upto_region 5 with (go_at_call 25; refine (sum_vars (n' := 0) (m := 0) (m2 := 0) (k2 := 0) Ha3.out.rd rfl rfl (HFx.out.1.l) (by have := HFx.out.2.s; omega) (HFx.out.1.l) (by have := HFx.out.2.l; simp only [List.length_nil] at *; omega) HTW.out (Kd.C_below HV.out HB3.out) rfl (by omega) HW.out.1 (by omega) HW.out.2.1 rfl rfl HW.out.2.2.2.1).mono ?_; rintro e w4 ⟨As, cs, Ds, ds, Es, es, rfl, hM, hb⟩; have hx := below_box hb (.cells #[.slice As on.length cs, .slice Ds 0 ds, .slice Es 0 es] 37); have HB4 := Aside0.mk (below_then HB3.out HB3.out.size hx); have Ha4 := Aside0.mk (Ha3.out.step hx); have Hs4 := Aside0.mk (WBx.new hM.rd rfl rfl HW.out.2.2.2.1); have ya0_4 : World.cell? _ ⟨w3.heap.size, 0, none⟩ = some (.slice Aa sx'.length ca) := (blk3_c Ha4.out.blk).1; have ya1_4 : World.cell? _ ⟨w3.heap.size, 1, none⟩ = some (.slice Da 0 da) := (blk3_c Ha4.out.blk).2.1; have ya2_4 : World.cell? _ ⟨w3.heap.size, 2, none⟩ = some (.slice Ea 0 ea) := (blk3_c Ha4.out.blk).2.2; have ys0_4 : World.cell? _ ⟨w4.heap.size, 0, none⟩ = some (.slice As on.length cs) := (blk3_c Hs4.out.blk).1; have ys1_4 : World.cell? _ ⟨w4.heap.size, 1, none⟩ = some (.slice Ds 0 ds) := (blk3_c Hs4.out.blk).2.1; have ys2_4 : World.cell? _ ⟨w4.heap.size, 2, none⟩ = some (.slice Es 0 es) := (blk3_c Hs4.out.blk).2.2; clear hM hb hx ya0_3 ya1_3 ya2_3)
    clear hcut1
    go_upto_region 6 with (go_at_call 25; refine (sum_nothing Hs4.out.rd rfl HW.out.2.2.2.2.2 (by omega)).mono ?_; rintro e w5 ⟨At, ct, Dt, dt, Et, et, rfl, hM, hb⟩; have hx := below_box hb (.cells #[.slice At 0 ct, .slice Dt 0 dt, .slice Et 0 et] 37); have HB5 := Aside0.mk (below_then HB4.out HB4.out.size hx); have Ha5 := Aside0.mk (Ha4.out.step hx); have Ht5 := Aside0.mk (WBx.new hM.rd rfl rfl rfl); have ya0_5 : World.cell? _ ⟨w3.heap.size, 0, none⟩ = some (.slice Aa sx'.length ca) := (blk3_c Ha5.out.blk).1; have ya1_5 : World.cell? _ ⟨w3.heap.size, 1, none⟩ = some (.slice Da 0 da) := (blk3_c Ha5.out.blk).2.1; have ya2_5 : World.cell? _ ⟨w3.heap.size, 2, none⟩ = some (.slice Ea 0 ea) := (blk3_c Ha5.out.blk).2.2; have yt0_5 : World.cell? _ ⟨w5.heap.size, 0, none⟩ = some (.slice At 0 ct) := (blk3_c Ht5.out.blk).1; have yt1_5 : World.cell? _ ⟨w5.heap.size, 1, none⟩ = some (.slice Dt 0 dt) := (blk3_c Ht5.out.blk).2.1; have yt2_5 : World.cell? _ ⟨w5.heap.size, 2, none⟩ = some (.slice Et 0 et) := (blk3_c Ht5.out.blk).2.2; clear hM hb hx ya0_4 ya1_4 ya2_4 ys0_4 ys1_4 ys2_4)
    go_upto_region 7 with (go_at_call 25; refine (sum_nothing Ha5.out.rd rfl HFx.out.1.r.1.1 (by have := HFx.out.2.s; omega)).mono ?_; rintro e w6 ⟨Au, cu, Du, du, Eu, eu, rfl, hM, hb⟩; have hx := below_box hb (.cells #[.slice Au 0 cu, .slice Du 0 du, .slice Eu 0 eu] 37); have HB6 := Aside0.mk (below_then HB5.out HB5.out.size hx); have Ha6 := Aside0.mk (Ha5.out.step hx); have Ht6 := Aside0.mk (Ht5.out.step hx); have Hu6 := Aside0.mk (WBx.new hM.rd rfl rfl rfl); have ya0_6 : World.cell? _ ⟨w3.heap.size, 0, none⟩ = some (.slice Aa sx'.length ca) := (blk3_c Ha6.out.blk).1; have ya1_6 : World.cell? _ ⟨w3.heap.size, 1, none⟩ = some (.slice Da 0 da) := (blk3_c Ha6.out.blk).2.1; have ya2_6 : World.cell? _ ⟨w3.heap.size, 2, none⟩ = some (.slice Ea 0 ea) := (blk3_c Ha6.out.blk).2.2; have yt0_6 : World.cell? _ ⟨w5.heap.size, 0, none⟩ = some (.slice At 0 ct) := (blk3_c Ht6.out.blk).1; have yt1_6 : World.cell? _ ⟨w5.heap.size, 1, none⟩ = some (.slice Dt 0 dt) := (blk3_c Ht6.out.blk).2.1; have yt2_6 : World.cell? _ ⟨w5.heap.size, 2, none⟩ = some (.slice Et 0 et) := (blk3_c Ht6.out.blk).2.2; have yu0_6 : World.cell? _ ⟨w6.heap.size, 0, none⟩ = some (.slice Au 0 cu) := (blk3_c Hu6.out.blk).1; have yu1_6 : World.cell? _ ⟨w6.heap.size, 1, none⟩ = some (.slice Du 0 du) := (blk3_c Hu6.out.blk).2.1; have yu2_6 : World.cell? _ ⟨w6.heap.size, 2, none⟩ = some (.slice Eu 0 eu) := (blk3_c Hu6.out.blk).2.2; clear hM hb hx ya0_5 ya1_5 ya2_5 yt0_5 yt1_5 yt2_5)
    go_upto_region 8 with (first
        | (have hgd := HB7; clear hgd; go_at_call 26; refine (min_nothing Hp7.out rfl HW.out.2.2.2.2.2 (by omega)).mono ?_; rintro e w8 ⟨Am, cm, Dm, dm, Em, em, rfl, hM, hb⟩; have hx := below_box hb (.cells #[.slice Am 0 cm, .slice Dm 0 dm, .slice Em 0 em] 37); have HB8 := Aside0.mk (below_then HB7.out HB7.out.size hx); have Ha8 := Aside0.mk (Ha7.out.step hx); have Ht8 := Aside0.mk (Ht7.out.step hx); have Hu8 := Aside0.mk (Hu7.out.step hx); have Hm8 := Aside0.mk (WBx.new hM.rd rfl rfl rfl); have ya0_8 : World.cell? _ ⟨w3.heap.size, 0, none⟩ = some (.slice Aa sx'.length ca) := (blk3_c Ha8.out.blk).1; have ya1_8 : World.cell? _ ⟨w3.heap.size, 1, none⟩ = some (.slice Da 0 da) := (blk3_c Ha8.out.blk).2.1; have ya2_8 : World.cell? _ ⟨w3.heap.size, 2, none⟩ = some (.slice Ea 0 ea) := (blk3_c Ha8.out.blk).2.2; have yt0_8 : World.cell? _ ⟨w5.heap.size, 0, none⟩ = some (.slice At 0 ct) := (blk3_c Ht8.out.blk).1; have yt1_8 : World.cell? _ ⟨w5.heap.size, 1, none⟩ = some (.slice Dt 0 dt) := (blk3_c Ht8.out.blk).2.1; have yt2_8 : World.cell? _ ⟨w5.heap.size, 2, none⟩ = some (.slice Et 0 et) := (blk3_c Ht8.out.blk).2.2; have yu0_8 : World.cell? _ ⟨w6.heap.size, 0, none⟩ = some (.slice Au 0 cu) := (blk3_c Hu8.out.blk).1; have yu1_8 : World.cell? _ ⟨w6.heap.size, 1, none⟩ = some (.slice Du 0 du) := (blk3_c Hu8.out.blk).2.1; have yu2_8 : World.cell? _ ⟨w6.heap.size, 2, none⟩ = some (.slice Eu 0 eu) := (blk3_c Hu8.out.blk).2.2; have ym0_8 : World.cell? _ ⟨w8.heap.size, 0, none⟩ = some (.slice Am 0 cm) := (blk3_c Hm8.out.blk).1; have ym1_8 : World.cell? _ ⟨w8.heap.size, 1, none⟩ = some (.slice Dm 0 dm) := (blk3_c Hm8.out.blk).2.1; have ym2_8 : World.cell? _ ⟨w8.heap.size, 2, none⟩ = some (.slice Em 0 em) := (blk3_c Hm8.out.blk).2.2; clear hM hb hx ya0_7 ya1_7 ya2_7 yt0_7 yt1_7 yt2_7 yu0_7 yu1_7 yu2_7)
        | (go_at_call 26; refine (min_vars (n' := 0) (m := 0) (m2 := 0) (k2 := 0) Ha6.out.rd rfl rfl (HFx.out.1.l) (by have := HFx.out.2.s; omega) (by have := HFx.out.2.l; simp only [List.length_nil] at *; omega) (Kd.C_below HV.out HB6.out) rfl (by omega) HW.out.1 (by omega) HW.out.2.2.1 rfl rfl HW.out.2.2.2.2.1).mono ?_; rintro e w7 ⟨Ap, cp, Dp, dp, Ep, ep, rfl, hM, hb⟩; have HB7 := Aside0.mk (below_then HB6.out HB6.out.size hb); have Ha7 := Aside0.mk (Ha6.out.step hb); have Ht7 := Aside0.mk (Ht6.out.step hb); have Hu7 := Aside0.mk (Hu6.out.step hb); have Hp7 := Aside0.mk (hM.rd); have ya0_7 : World.cell? _ ⟨w3.heap.size, 0, none⟩ = some (.slice Aa sx'.length ca) := (blk3_c Ha7.out.blk).1; have ya1_7 : World.cell? _ ⟨w3.heap.size, 1, none⟩ = some (.slice Da 0 da) := (blk3_c Ha7.out.blk).2.1; have ya2_7 : World.cell? _ ⟨w3.heap.size, 2, none⟩ = some (.slice Ea 0 ea) := (blk3_c Ha7.out.blk).2.2; have yt0_7 : World.cell? _ ⟨w5.heap.size, 0, none⟩ = some (.slice At 0 ct) := (blk3_c Ht7.out.blk).1; have yt1_7 : World.cell? _ ⟨w5.heap.size, 1, none⟩ = some (.slice Dt 0 dt) := (blk3_c Ht7.out.blk).2.1; have yt2_7 : World.cell? _ ⟨w5.heap.size, 2, none⟩ = some (.slice Et 0 et) := (blk3_c Ht7.out.blk).2.2; have yu0_7 : World.cell? _ ⟨w6.heap.size, 0, none⟩ = some (.slice Au 0 cu) := (blk3_c Hu7.out.blk).1; have yu1_7 : World.cell? _ ⟨w6.heap.size, 1, none⟩ = some (.slice Du 0 du) := (blk3_c Hu7.out.blk).2.1; have yu2_7 : World.cell? _ ⟨w6.heap.size, 2, none⟩ = some (.slice Eu 0 eu) := (blk3_c Hu7.out.blk).2.2; clear hM hb ya0_6 ya1_6 ya2_6 yt0_6 yt1_6 yt2_6 yu0_6 yu1_6 yu2_6))
    go_upto_block 0 with (go_at_call 26; refine (min_nothing Ha8.out.rd rfl HFx.out.1.r.1.1 (by have := HFx.out.2.s; omega)).mono ?_; rintro e w9 ⟨An, cn, Dn, dn, En, en, rfl, hM, hb⟩; have hx := below_box hb (.cells #[.slice An 0 cn, .slice Dn 0 dn, .slice En 0 en] 37); have HB9 := Aside0.mk (below_then HB8.out HB8.out.size hx); have Ht9 := Aside0.mk (Ht8.out.step hx); have Hu9 := Aside0.mk (Hu8.out.step hx); have Hm9 := Aside0.mk (Hm8.out.step hx); have Hn9 := Aside0.mk (WBx.new hM.rd rfl rfl rfl); have yt0_9 : World.cell? _ ⟨w5.heap.size, 0, none⟩ = some (.slice At 0 ct) := (blk3_c Ht9.out.blk).1; have yt1_9 : World.cell? _ ⟨w5.heap.size, 1, none⟩ = some (.slice Dt 0 dt) := (blk3_c Ht9.out.blk).2.1; have yt2_9 : World.cell? _ ⟨w5.heap.size, 2, none⟩ = some (.slice Et 0 et) := (blk3_c Ht9.out.blk).2.2; have yu0_9 : World.cell? _ ⟨w6.heap.size, 0, none⟩ = some (.slice Au 0 cu) := (blk3_c Hu9.out.blk).1; have yu1_9 : World.cell? _ ⟨w6.heap.size, 1, none⟩ = some (.slice Du 0 du) := (blk3_c Hu9.out.blk).2.1; have yu2_9 : World.cell? _ ⟨w6.heap.size, 2, none⟩ = some (.slice Eu 0 eu) := (blk3_c Hu9.out.blk).2.2; have ym0_9 : World.cell? _ ⟨w8.heap.size, 0, none⟩ = some (.slice Am 0 cm) := (blk3_c Hm9.out.blk).1; have ym1_9 : World.cell? _ ⟨w8.heap.size, 1, none⟩ = some (.slice Dm 0 dm) := (blk3_c Hm9.out.blk).2.1; have ym2_9 : World.cell? _ ⟨w8.heap.size, 2, none⟩ = some (.slice Em 0 em) := (blk3_c Hm9.out.blk).2.2; have yn0_9 : World.cell? _ ⟨w9.heap.size, 0, none⟩ = some (.slice An 0 cn) := (blk3_c Hn9.out.blk).1; have yn1_9 : World.cell? _ ⟨w9.heap.size, 1, none⟩ = some (.slice Dn 0 dn) := (blk3_c Hn9.out.blk).2.1; have yn2_9 : World.cell? _ ⟨w9.heap.size, 2, none⟩ = some (.slice En 0 en) := (blk3_c Hn9.out.blk).2.2; clear hM hb hx ya0_8 ya1_8 ya2_8 yt0_8 yt1_8 yt2_8 yu0_8 yu1_8 yu2_8 ym0_8 ym1_8 ym2_8)
    go_wp2_with fail
    go_loopw [15] (fun i W => ∃ k : Nat, k ≤ 0 ∧ i = .int .i64 k ∧ Aside0 (Below (w9.alloc (.cells #[.slice An 0 cn, .slice Dn 0 dn, .slice En 0 en] 37)).heap.size (w9.alloc (.cells #[.slice An 0 cn, .slice Dn 0 dn, .slice En 0 en] 37)) W)) (fun i _ => 0 - (intOf i).toNat)
    case atStart => exact ⟨0, Nat.zero_le _, rfl, ⟨Below.refl _ _⟩⟩
    case round =>
      clear yt0_9 yt1_9 yt2_9 yu0_9 yu1_9 yu2_9 ym0_9 ym1_9 ym2_9 yn0_9 yn1_9 yn2_9
      obtain ⟨k, hk, rfl, HL⟩ := hrel
      have HtL := Aside0.mk (Ht9.out.step HL.out)
      have HuL := Aside0.mk (Hu9.out.step HL.out)
      have HmL := Aside0.mk (Hm9.out.step HL.out)
      have HnL := Aside0.mk (Hn9.out.step HL.out)
      have yt0_L : World.cell? _ ⟨w5.heap.size, 0, none⟩ = some (.slice At 0 ct) := (blk3_c HtL.out.blk).1
      have yt1_L : World.cell? _ ⟨w5.heap.size, 1, none⟩ = some (.slice Dt 0 dt) := (blk3_c HtL.out.blk).2.1
      have yt2_L : World.cell? _ ⟨w5.heap.size, 2, none⟩ = some (.slice Et 0 et) := (blk3_c HtL.out.blk).2.2
      have yu0_L : World.cell? _ ⟨w6.heap.size, 0, none⟩ = some (.slice Au 0 cu) := (blk3_c HuL.out.blk).1
      have yu1_L : World.cell? _ ⟨w6.heap.size, 1, none⟩ = some (.slice Du 0 du) := (blk3_c HuL.out.blk).2.1
      have yu2_L : World.cell? _ ⟨w6.heap.size, 2, none⟩ = some (.slice Eu 0 eu) := (blk3_c HuL.out.blk).2.2
      have ym0_L : World.cell? _ ⟨w8.heap.size, 0, none⟩ = some (.slice Am 0 cm) := (blk3_c HmL.out.blk).1
      have ym1_L : World.cell? _ ⟨w8.heap.size, 1, none⟩ = some (.slice Dm 0 dm) := (blk3_c HmL.out.blk).2.1
      have ym2_L : World.cell? _ ⟨w8.heap.size, 2, none⟩ = some (.slice Em 0 em) := (blk3_c HmL.out.blk).2.2
      have yn0_L : World.cell? _ ⟨w9.heap.size, 0, none⟩ = some (.slice An 0 cn) := (blk3_c HnL.out.blk).1
      have yn1_L : World.cell? _ ⟨w9.heap.size, 1, none⟩ = some (.slice Dn 0 dn) := (blk3_c HnL.out.blk).2.1
      have yn2_L : World.cell? _ ⟨w9.heap.size, 2, none⟩ = some (.slice En 0 en) := (blk3_c HnL.out.blk).2.2
      obtain rfl : k = 0 := by omega
      rw [show ((0 : Nat) : Int) = 0 from rfl]
      go_wp2
      go_ret
      exact ⟨rfl, below_then HB9.out HB9.out.size HL.out⟩
  · have hN2 : R2 ≠ [] := fun e => hN ((cut_none sx' Rx on).1 (by rw [← hR2]; exact e))
    obtain ⟨y1, hy1⟩ : ∃ y, wx.sum = y := ⟨_, rfl⟩
    obtain ⟨y2, hy2⟩ : ∃ y, least wx = y := ⟨_, rfl⟩
    have hin : ∀ t ∈ Rx, pick t (on.map (idx sx')) ∈ R2 := by rw [hR2]; exact parted_in_R
    have hts : tot S2 ≤ 4611686018427387904 := by
      have h1 : tot S2 ≤ S2.length * 11988 := tot_le fun x hx => by
        rw [← hS2] at hx
        obtain ⟨l, hl, rfl⟩ := List.mem_map.1 hx
        have h2 := parted_tot (sc := sx') (on := on) (R := R2) HFx.out.1.l l hl
        have h3 := sum_le_tot l
        have h4 := HFx.out.1.tot
        simp only at h2 h4
        omega
      have h2 : ((S2.length : Nat) : Int) ≤ 12 := by omega
      have h3 : (S2.length : Int) * 11988 ≤ 12 * 11988 := Int.mul_le_mul_of_nonneg_right h2 (by omega)
      omega
    have hss : S2.sum = y1 := by rw [← hS2, ← hy1]; exact parted_sum HFx.out.1.l hin
    have hml : least M2 = y2 := by
      rw [← hM2, ← hy2]
      exact parted_least HFx.out.1.l hN hin (by rw [hR2]; exact parted_full HFx.out.1.l)
    have HN := Aside0.mk (And.intro hN (And.intro hN2 (And.intro hts (And.intro hss (And.intro hy1 (And.intro hml hy2))))))
    clear hN hN2 hy1 hy2 hin hts hss hml hon hR2 hS2 hM2 hS2l hM2l hP hor hr1
    have hp0 := P4Bx.new (Ab := F0) (nb := n0) (cb := f0) hr0 ha0 (ca := e0)
    have HB0 := Aside0.mk (below_alloc (Below.refl w.heap.size w) (.cells #[.slice A0 sx.length c0, .slice B0 rx.length d0, .slice E0 ax.length e0, .slice F0 n0 f0] 26))
    have Hx0 := Aside0.mk hp0
    clear hp0 hr0 ha0
    have yx0_0 : World.cell? _ ⟨w.heap.size, 0, none⟩ = some (.slice A0 sx.length c0) := (blk4_c Hx0.out.blk).1
    have yx1_0 : World.cell? _ ⟨w.heap.size, 1, none⟩ = some (.slice B0 rx.length d0) := (blk4_c Hx0.out.blk).2.1
    have yx2_0 : World.cell? _ ⟨w.heap.size, 2, none⟩ = some (.slice E0 ax.length e0) := (blk4_c Hx0.out.blk).2.2.1
    have yx3_0 : World.cell? _ ⟨w.heap.size, 3, none⟩ = some (.slice F0 n0 f0) := (blk4_c Hx0.out.blk).2.2.2
    go_enter Tryz.func8, Tryz.ntmps8
    go_upto_region 2 with (go_at_call 12; refine (shown4_any _ (HT.out.step HB0.out)).mono ?_; rintro e w1 ⟨rfl, hb⟩; have HB1 := Aside0.mk (below_then HB0.out HB0.out.size hb); have Hx1 := Aside0.mk (Hx0.out.step hb); have yx0_1 : World.cell? _ ⟨w.heap.size, 0, none⟩ = some (.slice A0 sx.length c0) := (blk4_c Hx1.out.blk).1; have yx1_1 : World.cell? _ ⟨w.heap.size, 1, none⟩ = some (.slice B0 rx.length d0) := (blk4_c Hx1.out.blk).2.1; have yx2_1 : World.cell? _ ⟨w.heap.size, 2, none⟩ = some (.slice E0 ax.length e0) := (blk4_c Hx1.out.blk).2.2.1; have yx3_1 : World.cell? _ ⟨w.heap.size, 3, none⟩ = some (.slice F0 n0 f0) := (blk4_c Hx1.out.blk).2.2.2; clear hb yx0_0 yx1_0 yx2_0 yx3_0)
    go_upto_region 4 with (first
        | (have hgd := HB2; clear hgd; go_at_call 16; refine (number_is (n' := Rx.length) Hrr2.out rfl rfl Hdd2.out (by omega) HEx.out.2.2).mono ?_; rintro e w3 ⟨Ea, ea, rfl, hM, hb⟩; have hx := below_box hb (.cells #[.slice Aa sx'.length ca, .slice Da Rx.length da, .slice Ea Rx.length ea] 37); have HB3 := Aside0.mk (below_then HB2.out HB2.out.size hx); have Ha3 := Aside0.mk (WBx.new (n' := Rx.length) (m := Rx.length) hM rfl rfl (HFx.out.1.l)); have ya0_3 : World.cell? _ ⟨w3.heap.size, 0, none⟩ = some (.slice Aa sx'.length ca) := (blk3_c Ha3.out.blk).1; have ya1_3 : World.cell? _ ⟨w3.heap.size, 1, none⟩ = some (.slice Da Rx.length da) := (blk3_c Ha3.out.blk).2.1; have ya2_3 : World.cell? _ ⟨w3.heap.size, 2, none⟩ = some (.slice Ea Rx.length ea) := (blk3_c Ha3.out.blk).2.2; clear hM hb hx)
        | (go_at_call 14; refine (ref_is (n' := Rx.length) Hx1.out 999 (by decide) (by decide) hn0 HEx.out.1 HEx.out.2.1 rfl rfl).mono ?_; rintro e w2 ⟨Aa, ca, Da, da, Er, er, rfl, hM, hD, hb⟩; have HB2 := Aside0.mk (below_then HB1.out HB1.out.size hb); have Hrr2 := Aside0.mk (hM); have Hdd2 := Aside0.mk (hD); clear hM hD hb yx0_1 yx1_1 yx2_1 yx3_1))
    go_upto_region 5 with (go_at_call 25; refine (sum_vars (n' := Rx.length) (m := Rx.length) (m2 := R2.length) (k2 := R2.length) Ha3.out.rd rfl rfl (HFx.out.1.l) (by have := HFx.out.2.s; omega) (HFx.out.1.l) (by have := HFx.out.2.l; omega) HTW.out (Kd.C_below HV.out HB3.out) rfl (by omega) HW.out.1 (by omega) HW.out.2.1 rfl rfl HW.out.2.2.2.1).mono ?_; rintro e w4 ⟨As, cs, Ds, ds, Es, es, rfl, hM, hb⟩; have hx := below_box hb (.cells #[.slice As on.length cs, .slice Ds R2.length ds, .slice Es R2.length es] 37); have HB4 := Aside0.mk (below_then HB3.out HB3.out.size hx); have Ha4 := Aside0.mk (Ha3.out.step hx); have Hs4 := Aside0.mk (WBx.new hM.rd rfl rfl HW.out.2.2.2.1); have ya0_4 : World.cell? _ ⟨w3.heap.size, 0, none⟩ = some (.slice Aa sx'.length ca) := (blk3_c Ha4.out.blk).1; have ya1_4 : World.cell? _ ⟨w3.heap.size, 1, none⟩ = some (.slice Da Rx.length da) := (blk3_c Ha4.out.blk).2.1; have ya2_4 : World.cell? _ ⟨w3.heap.size, 2, none⟩ = some (.slice Ea Rx.length ea) := (blk3_c Ha4.out.blk).2.2; have ys0_4 : World.cell? _ ⟨w4.heap.size, 0, none⟩ = some (.slice As on.length cs) := (blk3_c Hs4.out.blk).1; have ys1_4 : World.cell? _ ⟨w4.heap.size, 1, none⟩ = some (.slice Ds R2.length ds) := (blk3_c Hs4.out.blk).2.1; have ys2_4 : World.cell? _ ⟨w4.heap.size, 2, none⟩ = some (.slice Es R2.length es) := (blk3_c Hs4.out.blk).2.2; clear hM hb hx ya0_3 ya1_3 ya2_3)
    clear hcut1
    go_upto_region 6 with (go_at_call 25; refine (sum_some Hs4.out.rd rfl rfl HW.out.2.2.2.1 HW.out.2.2.2.2.2 (by omega) HW.out.2.2.2.1 (by omega) HN.out.2.1 HN.out.2.2.1 HN.out.2.2.2.1).mono ?_; rintro e w5 ⟨At, ct, Dt, dt, Et, et, rfl, hM, hb⟩; obtain ⟨qt, rfl, hqt⟩ := at_int' hM.rd.w (Below.refl _ _) 0 (by decide) (by simp); simp only [Int.toNat_zero, Addr.add_zero'] at hqt; replace hqt : w5.cell? qt = some (.int .i64 y1) := hqt; have hx := below_box hb (.cells #[.slice At 0 ct, .slice Dt 1 dt, .slice (some qt) 1 et] 37); have HB5 := Aside0.mk (below_then HB4.out HB4.out.size hx); have Ha5 := Aside0.mk (Ha4.out.step hx); have Ht5 := Aside0.mk (WBx.new hM.rd rfl rfl rfl); have Htv5 := Aside0.mk (cell_below (below_alloc (Below.refl _ _) (.cells #[.slice At 0 ct, .slice Dt 1 dt, .slice (some qt) 1 et] 37)) hqt); have ya0_5 : World.cell? _ ⟨w3.heap.size, 0, none⟩ = some (.slice Aa sx'.length ca) := (blk3_c Ha5.out.blk).1; have ya1_5 : World.cell? _ ⟨w3.heap.size, 1, none⟩ = some (.slice Da Rx.length da) := (blk3_c Ha5.out.blk).2.1; have ya2_5 : World.cell? _ ⟨w3.heap.size, 2, none⟩ = some (.slice Ea Rx.length ea) := (blk3_c Ha5.out.blk).2.2; have yt0_5 : World.cell? _ ⟨w5.heap.size, 0, none⟩ = some (.slice At 0 ct) := (blk3_c Ht5.out.blk).1; have yt1_5 : World.cell? _ ⟨w5.heap.size, 1, none⟩ = some (.slice Dt 1 dt) := (blk3_c Ht5.out.blk).2.1; have yt2_5 : World.cell? _ ⟨w5.heap.size, 2, none⟩ = some (.slice (some qt) 1 et) := (blk3_c Ht5.out.blk).2.2; have ytv0_5 : World.cell? _ qt = some (.int .i64 y1) := Htv5.out; clear hM hqt hb hx ya0_4 ya1_4 ya2_4 ys0_4 ys1_4 ys2_4)
    go_upto_region 7 with (go_at_call 25; refine (sum_some Ha5.out.rd rfl rfl (HFx.out.1.l) HFx.out.1.r.1.1 (by have := HFx.out.2.s; omega) (HFx.out.1.l) (by have := HFx.out.2.l; omega) HN.out.1 HTW.out HN.out.2.2.2.2.1).mono ?_; rintro e w6 ⟨Au, cu, Du, du, Eu, eu, rfl, hM, hb⟩; obtain ⟨qu, rfl, hqu⟩ := at_int' hM.rd.w (Below.refl _ _) 0 (by decide) (by simp); simp only [Int.toNat_zero, Addr.add_zero'] at hqu; replace hqu : w6.cell? qu = some (.int .i64 y1) := hqu; have hx := below_box hb (.cells #[.slice Au 0 cu, .slice Du 1 du, .slice (some qu) 1 eu] 37); have HB6 := Aside0.mk (below_then HB5.out HB5.out.size hx); have Ha6 := Aside0.mk (Ha5.out.step hx); have Ht6 := Aside0.mk (Ht5.out.step hx); have Htv6 := Aside0.mk (cell_below hx Htv5.out); have Hu6 := Aside0.mk (WBx.new hM.rd rfl rfl rfl); have Huv6 := Aside0.mk (cell_below (below_alloc (Below.refl _ _) (.cells #[.slice Au 0 cu, .slice Du 1 du, .slice (some qu) 1 eu] 37)) hqu); have ya0_6 : World.cell? _ ⟨w3.heap.size, 0, none⟩ = some (.slice Aa sx'.length ca) := (blk3_c Ha6.out.blk).1; have ya1_6 : World.cell? _ ⟨w3.heap.size, 1, none⟩ = some (.slice Da Rx.length da) := (blk3_c Ha6.out.blk).2.1; have ya2_6 : World.cell? _ ⟨w3.heap.size, 2, none⟩ = some (.slice Ea Rx.length ea) := (blk3_c Ha6.out.blk).2.2; have yt0_6 : World.cell? _ ⟨w5.heap.size, 0, none⟩ = some (.slice At 0 ct) := (blk3_c Ht6.out.blk).1; have yt1_6 : World.cell? _ ⟨w5.heap.size, 1, none⟩ = some (.slice Dt 1 dt) := (blk3_c Ht6.out.blk).2.1; have yt2_6 : World.cell? _ ⟨w5.heap.size, 2, none⟩ = some (.slice (some qt) 1 et) := (blk3_c Ht6.out.blk).2.2; have ytv0_6 : World.cell? _ qt = some (.int .i64 y1) := Htv6.out; have yu0_6 : World.cell? _ ⟨w6.heap.size, 0, none⟩ = some (.slice Au 0 cu) := (blk3_c Hu6.out.blk).1; have yu1_6 : World.cell? _ ⟨w6.heap.size, 1, none⟩ = some (.slice Du 1 du) := (blk3_c Hu6.out.blk).2.1; have yu2_6 : World.cell? _ ⟨w6.heap.size, 2, none⟩ = some (.slice (some qu) 1 eu) := (blk3_c Hu6.out.blk).2.2; have yuv0_6 : World.cell? _ qu = some (.int .i64 y1) := Huv6.out; clear hM hqu hb hx ya0_5 ya1_5 ya2_5 yt0_5 yt1_5 yt2_5 ytv0_5)
    go_upto_region 8 with (first
        | (have hgd := HB7; clear hgd; go_at_call 26; refine (min_some Hp7.out rfl rfl HW.out.2.2.2.2.1 HW.out.2.2.2.2.2 (by omega) HW.out.2.2.2.2.1 (by omega) HN.out.2.1 HN.out.2.2.2.2.2.1).mono ?_; rintro e w8 ⟨Am, cm, Dm, dm, Em, em, rfl, hM, hb⟩; obtain ⟨qm, rfl, hqm⟩ := at_int' hM.rd.w (Below.refl _ _) 0 (by decide) (by simp); simp only [Int.toNat_zero, Addr.add_zero'] at hqm; replace hqm : w8.cell? qm = some (.int .i64 y2) := hqm; have hx := below_box hb (.cells #[.slice Am 0 cm, .slice Dm 1 dm, .slice (some qm) 1 em] 37); have HB8 := Aside0.mk (below_then HB7.out HB7.out.size hx); have Ha8 := Aside0.mk (Ha7.out.step hx); have Ht8 := Aside0.mk (Ht7.out.step hx); have Htv8 := Aside0.mk (cell_below hx Htv7.out); have Hu8 := Aside0.mk (Hu7.out.step hx); have Huv8 := Aside0.mk (cell_below hx Huv7.out); have Hm8 := Aside0.mk (WBx.new hM.rd rfl rfl rfl); have Hmv8 := Aside0.mk (cell_below (below_alloc (Below.refl _ _) (.cells #[.slice Am 0 cm, .slice Dm 1 dm, .slice (some qm) 1 em] 37)) hqm); have ya0_8 : World.cell? _ ⟨w3.heap.size, 0, none⟩ = some (.slice Aa sx'.length ca) := (blk3_c Ha8.out.blk).1; have ya1_8 : World.cell? _ ⟨w3.heap.size, 1, none⟩ = some (.slice Da Rx.length da) := (blk3_c Ha8.out.blk).2.1; have ya2_8 : World.cell? _ ⟨w3.heap.size, 2, none⟩ = some (.slice Ea Rx.length ea) := (blk3_c Ha8.out.blk).2.2; have yt0_8 : World.cell? _ ⟨w5.heap.size, 0, none⟩ = some (.slice At 0 ct) := (blk3_c Ht8.out.blk).1; have yt1_8 : World.cell? _ ⟨w5.heap.size, 1, none⟩ = some (.slice Dt 1 dt) := (blk3_c Ht8.out.blk).2.1; have yt2_8 : World.cell? _ ⟨w5.heap.size, 2, none⟩ = some (.slice (some qt) 1 et) := (blk3_c Ht8.out.blk).2.2; have ytv0_8 : World.cell? _ qt = some (.int .i64 y1) := Htv8.out; have yu0_8 : World.cell? _ ⟨w6.heap.size, 0, none⟩ = some (.slice Au 0 cu) := (blk3_c Hu8.out.blk).1; have yu1_8 : World.cell? _ ⟨w6.heap.size, 1, none⟩ = some (.slice Du 1 du) := (blk3_c Hu8.out.blk).2.1; have yu2_8 : World.cell? _ ⟨w6.heap.size, 2, none⟩ = some (.slice (some qu) 1 eu) := (blk3_c Hu8.out.blk).2.2; have yuv0_8 : World.cell? _ qu = some (.int .i64 y1) := Huv8.out; have ym0_8 : World.cell? _ ⟨w8.heap.size, 0, none⟩ = some (.slice Am 0 cm) := (blk3_c Hm8.out.blk).1; have ym1_8 : World.cell? _ ⟨w8.heap.size, 1, none⟩ = some (.slice Dm 1 dm) := (blk3_c Hm8.out.blk).2.1; have ym2_8 : World.cell? _ ⟨w8.heap.size, 2, none⟩ = some (.slice (some qm) 1 em) := (blk3_c Hm8.out.blk).2.2; have ymv0_8 : World.cell? _ qm = some (.int .i64 y2) := Hmv8.out; clear hM hqm hb hx ya0_7 ya1_7 ya2_7 yt0_7 yt1_7 yt2_7 ytv0_7 yu0_7 yu1_7 yu2_7 yuv0_7)
        | (go_at_call 26; refine (min_vars (n' := Rx.length) (m := Rx.length) (m2 := R2.length) (k2 := R2.length) Ha6.out.rd rfl rfl (HFx.out.1.l) (by have := HFx.out.2.s; omega) (by have := HFx.out.2.l; omega) (Kd.C_below HV.out HB6.out) rfl (by omega) HW.out.1 (by omega) HW.out.2.2.1 rfl rfl HW.out.2.2.2.2.1).mono ?_; rintro e w7 ⟨Ap, cp, Dp, dp, Ep, ep, rfl, hM, hb⟩; have HB7 := Aside0.mk (below_then HB6.out HB6.out.size hb); have Ha7 := Aside0.mk (Ha6.out.step hb); have Ht7 := Aside0.mk (Ht6.out.step hb); have Htv7 := Aside0.mk (cell_below hb Htv6.out); have Hu7 := Aside0.mk (Hu6.out.step hb); have Huv7 := Aside0.mk (cell_below hb Huv6.out); have Hp7 := Aside0.mk (hM.rd); have ya0_7 : World.cell? _ ⟨w3.heap.size, 0, none⟩ = some (.slice Aa sx'.length ca) := (blk3_c Ha7.out.blk).1; have ya1_7 : World.cell? _ ⟨w3.heap.size, 1, none⟩ = some (.slice Da Rx.length da) := (blk3_c Ha7.out.blk).2.1; have ya2_7 : World.cell? _ ⟨w3.heap.size, 2, none⟩ = some (.slice Ea Rx.length ea) := (blk3_c Ha7.out.blk).2.2; have yt0_7 : World.cell? _ ⟨w5.heap.size, 0, none⟩ = some (.slice At 0 ct) := (blk3_c Ht7.out.blk).1; have yt1_7 : World.cell? _ ⟨w5.heap.size, 1, none⟩ = some (.slice Dt 1 dt) := (blk3_c Ht7.out.blk).2.1; have yt2_7 : World.cell? _ ⟨w5.heap.size, 2, none⟩ = some (.slice (some qt) 1 et) := (blk3_c Ht7.out.blk).2.2; have ytv0_7 : World.cell? _ qt = some (.int .i64 y1) := Htv7.out; have yu0_7 : World.cell? _ ⟨w6.heap.size, 0, none⟩ = some (.slice Au 0 cu) := (blk3_c Hu7.out.blk).1; have yu1_7 : World.cell? _ ⟨w6.heap.size, 1, none⟩ = some (.slice Du 1 du) := (blk3_c Hu7.out.blk).2.1; have yu2_7 : World.cell? _ ⟨w6.heap.size, 2, none⟩ = some (.slice (some qu) 1 eu) := (blk3_c Hu7.out.blk).2.2; have yuv0_7 : World.cell? _ qu = some (.int .i64 y1) := Huv7.out; clear hM hb ya0_6 ya1_6 ya2_6 yt0_6 yt1_6 yt2_6 ytv0_6 yu0_6 yu1_6 yu2_6 yuv0_6))
    go_upto_block 0 with (go_at_call 26; refine (min_some Ha8.out.rd rfl rfl (HFx.out.1.l) HFx.out.1.r.1.1 (by have := HFx.out.2.s; omega) (HFx.out.1.l) (by have := HFx.out.2.l; omega) HN.out.1 HN.out.2.2.2.2.2.2).mono ?_; rintro e w9 ⟨An, cn, Dn, dn, En, en, rfl, hM, hb⟩; obtain ⟨qn, rfl, hqn⟩ := at_int' hM.rd.w (Below.refl _ _) 0 (by decide) (by simp); simp only [Int.toNat_zero, Addr.add_zero'] at hqn; replace hqn : w9.cell? qn = some (.int .i64 y2) := hqn; have hx := below_box hb (.cells #[.slice An 0 cn, .slice Dn 1 dn, .slice (some qn) 1 en] 37); have HB9 := Aside0.mk (below_then HB8.out HB8.out.size hx); have Ht9 := Aside0.mk (Ht8.out.step hx); have Htv9 := Aside0.mk (cell_below hx Htv8.out); have Hu9 := Aside0.mk (Hu8.out.step hx); have Huv9 := Aside0.mk (cell_below hx Huv8.out); have Hm9 := Aside0.mk (Hm8.out.step hx); have Hmv9 := Aside0.mk (cell_below hx Hmv8.out); have Hn9 := Aside0.mk (WBx.new hM.rd rfl rfl rfl); have Hnv9 := Aside0.mk (cell_below (below_alloc (Below.refl _ _) (.cells #[.slice An 0 cn, .slice Dn 1 dn, .slice (some qn) 1 en] 37)) hqn); have yt0_9 : World.cell? _ ⟨w5.heap.size, 0, none⟩ = some (.slice At 0 ct) := (blk3_c Ht9.out.blk).1; have yt1_9 : World.cell? _ ⟨w5.heap.size, 1, none⟩ = some (.slice Dt 1 dt) := (blk3_c Ht9.out.blk).2.1; have yt2_9 : World.cell? _ ⟨w5.heap.size, 2, none⟩ = some (.slice (some qt) 1 et) := (blk3_c Ht9.out.blk).2.2; have ytv0_9 : World.cell? _ qt = some (.int .i64 y1) := Htv9.out; have yu0_9 : World.cell? _ ⟨w6.heap.size, 0, none⟩ = some (.slice Au 0 cu) := (blk3_c Hu9.out.blk).1; have yu1_9 : World.cell? _ ⟨w6.heap.size, 1, none⟩ = some (.slice Du 1 du) := (blk3_c Hu9.out.blk).2.1; have yu2_9 : World.cell? _ ⟨w6.heap.size, 2, none⟩ = some (.slice (some qu) 1 eu) := (blk3_c Hu9.out.blk).2.2; have yuv0_9 : World.cell? _ qu = some (.int .i64 y1) := Huv9.out; have ym0_9 : World.cell? _ ⟨w8.heap.size, 0, none⟩ = some (.slice Am 0 cm) := (blk3_c Hm9.out.blk).1; have ym1_9 : World.cell? _ ⟨w8.heap.size, 1, none⟩ = some (.slice Dm 1 dm) := (blk3_c Hm9.out.blk).2.1; have ym2_9 : World.cell? _ ⟨w8.heap.size, 2, none⟩ = some (.slice (some qm) 1 em) := (blk3_c Hm9.out.blk).2.2; have ymv0_9 : World.cell? _ qm = some (.int .i64 y2) := Hmv9.out; have yn0_9 : World.cell? _ ⟨w9.heap.size, 0, none⟩ = some (.slice An 0 cn) := (blk3_c Hn9.out.blk).1; have yn1_9 : World.cell? _ ⟨w9.heap.size, 1, none⟩ = some (.slice Dn 1 dn) := (blk3_c Hn9.out.blk).2.1; have yn2_9 : World.cell? _ ⟨w9.heap.size, 2, none⟩ = some (.slice (some qn) 1 en) := (blk3_c Hn9.out.blk).2.2; have ynv0_9 : World.cell? _ qn = some (.int .i64 y2) := Hnv9.out; clear hM hqn hb hx ya0_8 ya1_8 ya2_8 yt0_8 yt1_8 yt2_8 ytv0_8 yu0_8 yu1_8 yu2_8 yuv0_8 ym0_8 ym1_8 ym2_8 ymv0_8)
    go_wp2_with fail
    go_loopw [15] (fun i W => ∃ k : Nat, k ≤ 1 ∧ i = .int .i64 k ∧ Aside0 (Below (w9.alloc (.cells #[.slice An 0 cn, .slice Dn 1 dn, .slice (some qn) 1 en] 37)).heap.size (w9.alloc (.cells #[.slice An 0 cn, .slice Dn 1 dn, .slice (some qn) 1 en] 37)) W)) (fun i _ => 1 - (intOf i).toNat)
    case atStart => exact ⟨0, Nat.zero_le _, rfl, ⟨Below.refl _ _⟩⟩
    case round =>
      clear yt0_9 yt1_9 yt2_9 ytv0_9 yu0_9 yu1_9 yu2_9 yuv0_9 ym0_9 ym1_9 ym2_9 ymv0_9 yn0_9 yn1_9 yn2_9 ynv0_9
      obtain ⟨k, hk, rfl, HL⟩ := hrel
      have HtL := Aside0.mk (Ht9.out.step HL.out)
      have HtvL := Aside0.mk (cell_below HL.out Htv9.out)
      have HuL := Aside0.mk (Hu9.out.step HL.out)
      have HuvL := Aside0.mk (cell_below HL.out Huv9.out)
      have HmL := Aside0.mk (Hm9.out.step HL.out)
      have HmvL := Aside0.mk (cell_below HL.out Hmv9.out)
      have HnL := Aside0.mk (Hn9.out.step HL.out)
      have HnvL := Aside0.mk (cell_below HL.out Hnv9.out)
      have yt0_L : World.cell? _ ⟨w5.heap.size, 0, none⟩ = some (.slice At 0 ct) := (blk3_c HtL.out.blk).1
      have yt1_L : World.cell? _ ⟨w5.heap.size, 1, none⟩ = some (.slice Dt 1 dt) := (blk3_c HtL.out.blk).2.1
      have yt2_L : World.cell? _ ⟨w5.heap.size, 2, none⟩ = some (.slice (some qt) 1 et) := (blk3_c HtL.out.blk).2.2
      have ytv0_L : World.cell? _ qt = some (.int .i64 y1) := HtvL.out
      have yu0_L : World.cell? _ ⟨w6.heap.size, 0, none⟩ = some (.slice Au 0 cu) := (blk3_c HuL.out.blk).1
      have yu1_L : World.cell? _ ⟨w6.heap.size, 1, none⟩ = some (.slice Du 1 du) := (blk3_c HuL.out.blk).2.1
      have yu2_L : World.cell? _ ⟨w6.heap.size, 2, none⟩ = some (.slice (some qu) 1 eu) := (blk3_c HuL.out.blk).2.2
      have yuv0_L : World.cell? _ qu = some (.int .i64 y1) := HuvL.out
      have ym0_L : World.cell? _ ⟨w8.heap.size, 0, none⟩ = some (.slice Am 0 cm) := (blk3_c HmL.out.blk).1
      have ym1_L : World.cell? _ ⟨w8.heap.size, 1, none⟩ = some (.slice Dm 1 dm) := (blk3_c HmL.out.blk).2.1
      have ym2_L : World.cell? _ ⟨w8.heap.size, 2, none⟩ = some (.slice (some qm) 1 em) := (blk3_c HmL.out.blk).2.2
      have ymv0_L : World.cell? _ qm = some (.int .i64 y2) := HmvL.out
      have yn0_L : World.cell? _ ⟨w9.heap.size, 0, none⟩ = some (.slice An 0 cn) := (blk3_c HnL.out.blk).1
      have yn1_L : World.cell? _ ⟨w9.heap.size, 1, none⟩ = some (.slice Dn 1 dn) := (blk3_c HnL.out.blk).2.1
      have yn2_L : World.cell? _ ⟨w9.heap.size, 2, none⟩ = some (.slice (some qn) 1 en) := (blk3_c HnL.out.blk).2.2
      have ynv0_L : World.cell? _ qn = some (.int .i64 y2) := HnvL.out
      by_cases hk0 : k = 0
      · subst hk0
        rw [show ((0 : Nat) : Int) = 0 from rfl]
        go_upto_region 14 with fail
        go_quiet (fail)
        go_wp2
        go_roundw
        case measure => simp [intOf]
        case rel => exact ⟨1, by omega, rfl, ⟨below_then HL.out HL.out.size (pw_below_drewN (Below.refl _ _) _)⟩⟩
      · obtain rfl : k = 1 := by omega
        rw [show ((1 : Nat) : Int) = 1 from rfl]
        go_wp2
        go_ret
        exact ⟨rfl, below_then HB9.out HB9.out.size HL.out⟩
end Go.Proofs.YtlmkgghpaaadhaaGreatDoor.G

namespace Go.Proofs.YtlmkgghpaaadhaaGreatDoor.weighSteps
open Go.ChangeShapes Go.WideShapes Go.ChangeAt Go.RowKit Go.Proofs.YtlmkgghpaaadhaaGreatDoorW.PrintWords Go.Proofs.YtlmkgghpaaadhaaGreatDoorW.PrintLast Go.Proofs.YtlmkgghpaaadhaaGreatDoorW.PrintMore Go.Proofs.YtlmkgghpaaadhaaGreatDoor.PRefs
set_option linter.unusedVariables false
theorem own : ownKnob Tryz.prog.godebug = none := by kernel_rfl
theorem laidOut : laidOutB Tryz.prog = true := by kernel_rfl
set_option maxRecDepth 100000 in
theorem lifted (os : Os) (started : os.Started) (H : Type) (enc : TypeId × Value → H) :
    ReturnsInHanded {} Tryz.checked os 8 .any (fun w args => (Rows.weighStepsSpec.pre enc Tryz.prog Tryz.f8 [] false w args ∧ laidMetH Tryz.prog G.laidList w) ∧ sizedMet enc Tryz.prog Tryz.f8 (OpenSpec.ofChange Rows.weighStepsSpec) false w args)
      (Rows.weighStepsSpec.post enc Tryz.prog Tryz.f8 false true false false) := by
  refine returnsInHanded_of_change_and (C := Tryz.checked) (X := fun w _ => laidMetH Tryz.prog G.laidList w) (fun _ _ _ hh h => h.of_heap hh) own started (by kernel_rfl) Tryz.func8
    (ChangeSpec.witness_shaped (enc := enc) (C := Tryz.checked) (os := os) (X := fun w _ => laidMetH Tryz.prog G.laidList w) false (World.doorLaid Tryz.prog 400 os) #[.agg #[.slice none 0 0, .slice none 0 0, .slice none 0 0, .slice none 0 0], .slice none 0 0] 8 rfl (World.shaped_of_RefB (by kernel_rfl) (by kernel_rfl)) (by kernel_rfl) (by kernel_rfl) (by kernel_rfl) (G.door_met os _)) ?_
  intro W base args ds gs before hval0 hW _ _ hL _
  have htab := G.tab_of hL
  have hval : ∀ (j : Nat) t v, Tryz.f8.params[j]? = some t → args[j]? = some v → Value.okWide Tryz.prog W .any base t v := hval0
  have hW' := hW
  obtain ⟨p, q, hA0, hV, rfl, hfz, hnd⟩ := hW
  have hA : DataW.TrodAll enc Tryz.prog W 0 (fun _ => true) true Tryz.f8.params.toList args.toList ds p := hA0
  rw [Tryz.params8] at hA hval
  obtain ⟨v0, vs0, d0, ds0, p0, q0, hargs, rfl, rfl, h0, r0⟩ := trodAll_cons hA
  obtain ⟨v1, vs1, d1, ds1, p1, q1, rfl, rfl, rfl, h1, r1⟩ := trodAll_cons r0
  obtain ⟨rfl, rfl, rfl⟩ := trodAll_nil r1
  obtain rfl : args = #[v0, v1] := by cases args; simp_all
  obtain ⟨rfl, rfl⟩ := trodVars_none hV
  obtain ⟨cs0, rfl, hcs0⟩ := okWide_struct Tryz.underlying26 (hval 0 26 v0 rfl rfl)
  obtain ⟨a1, len1, cap1, rfl⟩ := okWide_slice Tryz.underlying22 (hval 1 22 v1 rfl rfl)
  have k0 := h0
  have lt0 : ∀ x ∈ p0, x.block < W.heap.size := by obtain ⟨m, hm⟩ := k0; exact DataW.trod_lt m _ _ _ hm
  have k1 := h1
  have lt1 : ∀ x ∈ p1, x.block < W.heap.size := by obtain ⟨m, hm⟩ := k1; exact DataW.trod_lt m _ _ _ hm
  obtain ⟨a0, cap0, z0, ar0, capr0, zr0, ab0, capb0, zb0, ac0, nc0, capc0, rfl, c0, b0, m0⟩ := (by obtain ⟨m, hm⟩ := h0; exact G.in_part4 hm : ∃ A c sc A' c' L Aa ca xA Ab nb cb, cs0 = #[.slice A sc.length c, .slice A' L.length c', .slice Aa xA.length ca, .slice Ab nb cb] ∧ G.RelRd W A c sc A' c' L ∧ Kd.C G.KI W Aa xA.length xA ∧ nb ≤ 9223372036854775807)
  obtain ⟨z1, e1, l1, c1⟩ : ∃ xs : List Int, xs.length = len1 ∧ len1 ≤ cap1 ∧ Kd.C G.KI W a1 xs.length xs := by obtain ⟨m, hm⟩ := h1; exact G.in_ints hm
  clear hA0 hval0
  subst e1
  refine (G.weighsteps_walk a0 cap0 z0 ar0 capr0 zr0 ab0 capb0 zb0 ac0 nc0 capc0 a1 cap1 z1 W c0 b0 m0 c1 l1 htab).mono fun e W' ⟨he, bel⟩ => ?_
  subst he
  exact ⟨_, rfl, _, _, _, [], _, [], hW', trodAll_mk1 (shut_bool Tryz.underlying4 _), (trodAll_cons_mk (Below.trod laidOut (by kernel_rfl) (of_decide_eq_true (by kernel_rfl)) k0 bel lt0) (trodAll_cons_mk (Below.trod laidOut (by kernel_rfl) (of_decide_eq_true (by kernel_rfl)) k1 bel lt1) trodAll_mk0)), rfl, bel.frame _, fun h => by cases h⟩
theorem over : Rows.weighStepsRow.holds Tryz.pinned (OpenSpec.ofChange Rows.weighStepsSpec) :=
  OpenClaim.holds_of_wide 8 Tryz.f8 rfl rfl rfl rfl rfl rfl rfl ⟨rfl, rfl, rfl, rfl, rfl⟩ rfl rfl rfl rfl rfl (by kernel_rfl) Tryz.func8 (by kernel_rfl)
    (of_decide_eq_true (by kernel_rfl)) (by unfold Func.isWrapper; first | (rw [if_pos (by decide +kernel)]; kernel_rfl) | (rw [if_neg (by decide +kernel)]; exact ⟨rfl, rfl⟩))
    (fun os started H enc _ => lifted os started H enc)
theorem proved : Rows.WeighStepsCardSaid :=
  Claim7.holds_tied_plain_at .later [] [.data, .data, .data] true Rows.weighStepsCard.stood.harness true
    over (fun _ h => by cases h) (by kernel_rfl) (fun _ h => by cases h) weighSteps_row_tie rfl ⟨rfl, rfl⟩ (by kernel_rfl) rfl
    (fun f fn hf hfn => by
      obtain rfl : f = 8 := Option.some.inj ((show Tryz.prog.funcNamed "arborist/arboristlaw04.WeighSteps" = some 8 by kernel_rfl).symm.trans hf) |>.symm
      obtain rfl : fn = Tryz.f8 := (Option.some.inj (Tryz.func8.symm.trans hfn)).symm
      exact ⟨by kernel_rfl, fun j t ht => by
        rw [Tryz.params8] at ht
        have hm : t ∈ [26, 22] := by simpa using Array.mem_of_getElem? ht
        have hall : ([26, 22].all fun u => !Tryz.prog.wantsStandIn u) = true := by kernel_rfl
        exact (show Tryz.prog.wantsStandIn t = false by simpa using List.all_eq_true.1 hall t hm)⟩)
    (by kernel_rfl)
#print axioms proved
end Go.Proofs.YtlmkgghpaaadhaaGreatDoor.weighSteps
