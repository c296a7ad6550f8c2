/- Proved: for every input the law arboristlaw03.JoinAgrees returns true and its arguments read as they did; what the program's tables hold at the start is tied to the program's text. No condition. -/
import Derived.Test.YtnmonjincnlhiaaDoorRows
import Derived.Test.YtnmonjincnlhiaaDoorCards
import Derived.Test.YtnmonjincnlhiaaDoorTie
import Derived.Test.YtnmonjincnlhiaaDoorInPart
import Derived.Deep.Matrix
import Derived.ProofKit
import Derived.OpenShut
import Derived.WalkKit
import Derived.ShutString
import Derived.ChangeOld
import Derived.Below
import Derived.SevenTiedAt
import Derived.Stop.Joined
set_option linter.unusedVariables false
set_option linter.unusedSimpArgs false
namespace Go.Proofs.YtnmonjincnlhiaaDoor.G
open Go.RowKit Go.Proofs.YtnmonjincnlhiaaDoorW.PrintWords Go.Proofs.YtnmonjincnlhiaaDoorW.PrintLast Go.Proofs.YtnmonjincnlhiaaDoorW.PrintMore Go.Proofs.YtnmonjincnlhiaaDoor.PRefs
attribute [local go_sem] min2_mn min_two

set_option maxHeartbeats 4000000 in
set_option maxRecDepth 100000 in
theorem joinagrees_walk (A0 : Option Addr) (c0 : Nat) (sx : List Int) (B0 : Option Addr) (d0 : Nat) (rx : List (List Int)) (A1 : Option Addr) (c1 : Nat) (sy : List Int) (B1 : Option Addr) (d1 : Nat) (ry : List (List Int)) (w : World) (hr0 : RelRd w A0 c0 sx B0 d0 rx) (hr1 : RelRd w A1 c1 sy B1 d1 ry) (htab : Tab w) :
    Calls Tryd.prog 4 #[.agg #[.slice A0 sx.length c0, .slice B0 rx.length d0], .agg #[.slice A1 sy.length c1, .slice B1 ry.length d1]] w fun e w' => e = .returned (.bool true) ∧ Below w.heap.size w w' := by
  have HT := Aside0.mk htab
  clear htab
  obtain ⟨W0, hW0⟩ : ∃ W0, ((w.alloc (.cells #[.slice A0 sx.length c0, .slice B0 rx.length d0] 25)).alloc (.cells #[.slice A1 sy.length c1, .slice B1 ry.length d1] 25)) = W0 := ⟨_, rfl⟩
  have hbe : Below w.heap.size w W0 := by rw [← hW0]; exact below_alloc (below_alloc (Below.refl _ _) _) _
  have HB1 := Aside0.mk hbe
  have hk0 : W0.heap[w.heap.size]? = some (.cells #[.slice A0 sx.length c0, .slice B0 rx.length d0] 25 (0, 0)) := by
    rw [← hW0]
    have h0 := heap_alloc_new w (.cells #[.slice A0 sx.length c0, .slice B0 rx.length d0] 25)
    try simp only [World.size_alloc] at h0
    exact ((Below.heap_alloc _ _ _ (by first | (simp; done) | (simp; omega))).trans h0)
  have Hpx1 := Aside0.mk (PtBx.mk hk0 (hr0.step hbe))
  have qpx0_1 := blk2_c0 hk0
  have qpx1_1 := blk2_c1 hk0
  have hk1 : W0.heap[w.heap.size + 1]? = some (.cells #[.slice A1 sy.length c1, .slice B1 ry.length d1] 25 (0, 0)) := by
    rw [← hW0]
    have h0 := heap_alloc_new (w.alloc (.cells #[.slice A0 sx.length c0, .slice B0 rx.length d0] 25)) (.cells #[.slice A1 sy.length c1, .slice B1 ry.length d1] 25)
    try simp only [World.size_alloc] at h0
    exact h0
  have Hpy1 := Aside0.mk (PtBx.mk hk1 (hr1.step hbe))
  have qpy0_1 := blk2_c0 hk1
  have qpy1_1 := blk2_c1 hk1
  clear hbe hk0 hr0 hk1 hr1
  have hSx := sm_small sx rx
  have HFx := Aside0.mk (Small3_f sx rx 4000 (Nat.le_refl _))
  generalize smallRows3 (smallS3 sx).length rx = X at *
  generalize smallS3 sx = SA at *
  have hSy := sm_small sy ry
  have HFy := Aside0.mk (Small3_f sy ry 4000 (Nat.le_refl _))
  generalize smallRows3 (smallS3 sy).length ry = Y at *
  generalize smallS3 sy = SB at *
  have ht := hSx.rt.semi SB Y
  have ht' := hSy.rt.semi SA X
  have e1 := agree_iff hSx.rt.r hSy.rt.r
  have e2 := agree_semis hSx.rt.r hSy.rt.r
  obtain ⟨S, hSe⟩ : ∃ S, semiRows SA X SB Y = S := ⟨_, rfl⟩
  obtain ⟨T, hTe⟩ : ∃ T, semiRows SB Y SA X = T := ⟨_, rfl⟩
  rw [hSe] at ht e1 e2
  rw [hTe] at ht' e1 e2
  obtain ⟨b1, hb1⟩ : ∃ b, decide (SA = SA ∧ S = X) = b := ⟨_, rfl⟩
  obtain ⟨b2, hb2⟩ : ∃ b, decide (SB = SB ∧ T = Y) = b := ⟨_, rfl⟩
  have hb0 : decide (projRel SA X SB = projRel SB Y SA) = (b1 && b2) := by
    rw [← hb1, ← hb2, Bool.eq_iff_iff, decide_eq_true_eq, Bool.and_eq_true, decide_eq_true_eq, decide_eq_true_eq, e1]
    simp
  have hb0' : decide (projRel SB Y SA = projRel SA X SB) = (b1 && b2) := by rw [← hb0, decide_eq_decide]; exact eq_comm
  have HE := Aside0.mk (And.intro hSe (And.intro hTe (And.intro hb1 (And.intro hb2 (And.intro hb0 (And.intro hb0' (decide_eq_true e2)))))))
  have HRT := Aside0.mk (And.intro hSx.rt (And.intro hSy.rt (And.intro ht ht')))
  have hlS := ht.l
  have hlT := ht'.l
  clear hSe hTe hb1 hb2 hb0 hb0' e1 e2 ht ht' hSx hSy
  cases b1
  · go_enter Tryd.func4, Tryd.ntmps4
    go_wp2_with (first
      | (have hgd := HB6; clear hgd; go_at_call 15; refine (same_rt Hs6.out.rd (by omega) Ha6.out.rd false (by simpa using HE.out.2.2.1)).mono ?_; rintro e w7 ⟨rfl, hb7⟩; have HB7 := Aside0.mk (below_then HB6.out HB6.out.size hb7); have Ha7 := Aside0.mk (Ha6.out.step hb7); have Hb7 := Aside0.mk (Hb6.out.step hb7); have Hs7 := Aside0.mk (Hs6.out.step hb7); have Ht7 := Aside0.mk (Ht6.out.step hb7); have qa0_7 := blk2_c0 Ha7.out.blk; have qa1_7 := blk2_c1 Ha7.out.blk; have qb0_7 := blk2_c0 Hb7.out.blk; have qb1_7 := blk2_c1 Hb7.out.blk; have qs0_7 := blk2_c0 Hs7.out.blk; have qs1_7 := blk2_c1 Hs7.out.blk; have qt0_7 := blk2_c0 Ht7.out.blk; have qt1_7 := blk2_c1 Ht7.out.blk; clear hb7 Ha6 Hb6 Hs6 Ht6 qa0_6 qa1_6 qb0_6 qb1_6 qs0_6 qs1_6 qt0_6 qt1_6)
      | (have hgd := HB5; clear hgd; go_at_call 13; refine (semi_rt Hb5.out.rd HRT.out.2.1 Ha5.out.rd HRT.out.1 (HT.out.step HB5.out) HE.out.2.1).mono ?_; rintro e w6 ⟨At, ct, Dt, dt, rfl, hr6, hb6⟩; have hx6 := below_box hb6 (.cells #[.slice At SB.length ct, .slice Dt T.length dt] 27); have HB6 := Aside0.mk (below_then HB5.out HB5.out.size hx6); have Ha6 := Aside0.mk (Ha5.out.step hx6); have Hb6 := Aside0.mk (Hb5.out.step hx6); have Hs6 := Aside0.mk (Hs5.out.step hx6); have Ht6 := Aside0.mk (RelBx.new hr6); have qa0_6 := blk2_c0 Ha6.out.blk; have qa1_6 := blk2_c1 Ha6.out.blk; have qb0_6 := blk2_c0 Hb6.out.blk; have qb1_6 := blk2_c1 Hb6.out.blk; have qs0_6 := blk2_c0 Hs6.out.blk; have qs1_6 := blk2_c1 Hs6.out.blk; have qt0_6 := blk2_c0 Ht6.out.blk; have qt1_6 := blk2_c1 Ht6.out.blk; clear hb6 hr6 hx6 Ha5 Hb5 Hs5 qa0_5 qa1_5 qb0_5 qb1_5 qs0_5 qs1_5)
      | (have hgd := HB4; clear hgd; go_at_call 13; refine (semi_rt Ha4.out.rd HRT.out.1 Hb4.out.rd HRT.out.2.1 (HT.out.step HB4.out) HE.out.1).mono ?_; rintro e w5 ⟨As, cs, Ds, ds, rfl, hr5, hb5⟩; have hx5 := below_box hb5 (.cells #[.slice As SA.length cs, .slice Ds S.length ds] 27); have HB5 := Aside0.mk (below_then HB4.out HB4.out.size hx5); have Ha5 := Aside0.mk (Ha4.out.step hx5); have Hb5 := Aside0.mk (Hb4.out.step hx5); have Hs5 := Aside0.mk (RelBx.new hr5); have qa0_5 := blk2_c0 Ha5.out.blk; have qa1_5 := blk2_c1 Ha5.out.blk; have qb0_5 := blk2_c0 Hb5.out.blk; have qb1_5 := blk2_c1 Hb5.out.blk; have qs0_5 := blk2_c0 Hs5.out.blk; have qs1_5 := blk2_c1 Hs5.out.blk; clear hb5 hr5 hx5 Ha4 Hb4 qa0_4 qa1_4 qb0_4 qb1_4)
      | (have hgd := HB3; clear hgd; go_at_call 12; refine (small3_is _ _ sy _ _ ry _ Hpy3.out.rd.row Hpy3.out.rd.cap Hpy3.out.rd.rows Hpy3.out.rd.cap2 HFy.out).mono ?_; rintro e w4 ⟨Ab, cb, Db, db, rfl, hr4, hb4⟩; have hx4 := below_box hb4 (.cells #[.slice Ab SB.length cb, .slice Db Y.length db] 27); have HB4 := Aside0.mk (below_then HB3.out HB3.out.size hx4); have Ha4 := Aside0.mk (Ha3.out.step hx4); have Hb4 := Aside0.mk (RelBx.new hr4); have qa0_4 := blk2_c0 Ha4.out.blk; have qa1_4 := blk2_c1 Ha4.out.blk; have qb0_4 := blk2_c0 Hb4.out.blk; have qb1_4 := blk2_c1 Hb4.out.blk; clear hb4 hr4 hx4 Hpy3 Ha3 qpy0_3 qpy1_3 qa0_3 qa1_3)
      | (have hgd := HB2; clear hgd; go_at_call 12; refine (small3_is _ _ sx _ _ rx _ Hpx2.out.rd.row Hpx2.out.rd.cap Hpx2.out.rd.rows Hpx2.out.rd.cap2 HFx.out).mono ?_; rintro e w3 ⟨Aa, ca, Da, da, rfl, hr3, hb3⟩; have hx3 := below_box hb3 (.cells #[.slice Aa SA.length ca, .slice Da X.length da] 27); have HB3 := Aside0.mk (below_then HB2.out HB2.out.size hx3); have Hpy3 := Aside0.mk (Hpy2.out.step hx3); have Ha3 := Aside0.mk (RelBx.new hr3); have qpy0_3 := blk2_c0 Hpy3.out.blk; have qpy1_3 := blk2_c1 Hpy3.out.blk; have qa0_3 := blk2_c0 Ha3.out.blk; have qa1_3 := blk2_c1 Ha3.out.blk; clear hb3 hr3 hx3 Hpx2 Hpy2 qpx0_2 qpx1_2 qpy0_2 qpy1_2)
      | (have hgd := HB1; clear hgd; go_at_call 11; refine (shown3_any _ (HT.out.step HB1.out)).mono ?_; rintro e w2 ⟨rfl, hb2⟩; have HB2 := Aside0.mk (below_then HB1.out HB1.out.size hb2); have Hpx2 := Aside0.mk (Hpx1.out.step hb2); have Hpy2 := Aside0.mk (Hpy1.out.step hb2); have qpx0_2 := blk2_c0 Hpx2.out.blk; have qpx1_2 := blk2_c1 Hpx2.out.blk; have qpy0_2 := blk2_c0 Hpy2.out.blk; have qpy1_2 := blk2_c1 Hpy2.out.blk; clear hb2 Hpx1 Hpy1 qpx0_1 qpx1_1 qpy0_1 qpy1_1))
    clear qa0_7 qa1_7 qb0_7 qb1_7 qs0_7 qs1_7 qt0_7 qt1_7
    obtain ⟨I, hI⟩ : ∃ I : World → Prop, ∀ W, I W ↔ (Below w.heap.size w W ∧ RelBx W w3.heap.size Aa ca SA Da da X ∧ RelBx W w4.heap.size Ab cb SB Db db Y ∧ RelBx W w5.heap.size As cs SA Ds ds S ∧ RelBx W w6.heap.size At ct SB Dt dt T) := ⟨_, fun _ => Iff.rfl⟩
    have hIst : ∀ {W W1 : World}, I W → Below W.heap.size W W1 → I W1 := fun h hb => by
      obtain ⟨h0, h1, h2, h3, h4⟩ := (hI _).1 h
      exact (hI _).2 ⟨below_then h0 h0.size hb, h1.step hb, h2.step hb, h3.step hb, h4.step hb⟩
    have hIal : ∀ {W : World}, I W → (W.cell? ⟨w3.heap.size, 0, none⟩ = some (.slice Aa SA.length ca) ∧ W.cell? ⟨w3.heap.size, 1, none⟩ = some (.slice Da X.length da) ∧ W.cell? ⟨w4.heap.size, 0, none⟩ = some (.slice Ab SB.length cb) ∧ W.cell? ⟨w4.heap.size, 1, none⟩ = some (.slice Db Y.length db) ∧ W.cell? ⟨w5.heap.size, 0, none⟩ = some (.slice As SA.length cs) ∧ W.cell? ⟨w5.heap.size, 1, none⟩ = some (.slice Ds S.length ds) ∧ W.cell? ⟨w6.heap.size, 0, none⟩ = some (.slice At SB.length ct) ∧ W.cell? ⟨w6.heap.size, 1, none⟩ = some (.slice Dt T.length dt) ∧ I W) := fun h => by
      obtain ⟨h0, h1, h2, h3, h4⟩ := (hI _).1 h
      exact ⟨blk2_c0 h1.blk, blk2_c1 h1.blk, blk2_c0 h2.blk, blk2_c1 h2.blk, blk2_c0 h3.blk, blk2_c1 h3.blk, blk2_c0 h4.blk, blk2_c1 h4.blk, h⟩
    have hIof : ∀ {W : World}, (W.cell? ⟨w3.heap.size, 0, none⟩ = some (.slice Aa SA.length ca) ∧ W.cell? ⟨w3.heap.size, 1, none⟩ = some (.slice Da X.length da) ∧ W.cell? ⟨w4.heap.size, 0, none⟩ = some (.slice Ab SB.length cb) ∧ W.cell? ⟨w4.heap.size, 1, none⟩ = some (.slice Db Y.length db) ∧ W.cell? ⟨w5.heap.size, 0, none⟩ = some (.slice As SA.length cs) ∧ W.cell? ⟨w5.heap.size, 1, none⟩ = some (.slice Ds S.length ds) ∧ W.cell? ⟨w6.heap.size, 0, none⟩ = some (.slice At SB.length ct) ∧ W.cell? ⟨w6.heap.size, 1, none⟩ = some (.slice Dt T.length dt) ∧ I W) → I W := fun h => h.2.2.2.2.2.2.2.2
    have hstep : ∀ {W W1 : World}, (W.cell? ⟨w3.heap.size, 0, none⟩ = some (.slice Aa SA.length ca) ∧ W.cell? ⟨w3.heap.size, 1, none⟩ = some (.slice Da X.length da) ∧ W.cell? ⟨w4.heap.size, 0, none⟩ = some (.slice Ab SB.length cb) ∧ W.cell? ⟨w4.heap.size, 1, none⟩ = some (.slice Db Y.length db) ∧ W.cell? ⟨w5.heap.size, 0, none⟩ = some (.slice As SA.length cs) ∧ W.cell? ⟨w5.heap.size, 1, none⟩ = some (.slice Ds S.length ds) ∧ W.cell? ⟨w6.heap.size, 0, none⟩ = some (.slice At SB.length ct) ∧ W.cell? ⟨w6.heap.size, 1, none⟩ = some (.slice Dt T.length dt) ∧ I W) → Below W.heap.size W W1 → (W1.cell? ⟨w3.heap.size, 0, none⟩ = some (.slice Aa SA.length ca) ∧ W1.cell? ⟨w3.heap.size, 1, none⟩ = some (.slice Da X.length da) ∧ W1.cell? ⟨w4.heap.size, 0, none⟩ = some (.slice Ab SB.length cb) ∧ W1.cell? ⟨w4.heap.size, 1, none⟩ = some (.slice Db Y.length db) ∧ W1.cell? ⟨w5.heap.size, 0, none⟩ = some (.slice As SA.length cs) ∧ W1.cell? ⟨w5.heap.size, 1, none⟩ = some (.slice Ds S.length ds) ∧ W1.cell? ⟨w6.heap.size, 0, none⟩ = some (.slice At SB.length ct) ∧ W1.cell? ⟨w6.heap.size, 1, none⟩ = some (.slice Dt T.length dt) ∧ I W1) := fun h hb => hIal (hIst (hIof h) hb)
    have gB : ∀ {W : World}, (W.cell? ⟨w3.heap.size, 0, none⟩ = some (.slice Aa SA.length ca) ∧ W.cell? ⟨w3.heap.size, 1, none⟩ = some (.slice Da X.length da) ∧ W.cell? ⟨w4.heap.size, 0, none⟩ = some (.slice Ab SB.length cb) ∧ W.cell? ⟨w4.heap.size, 1, none⟩ = some (.slice Db Y.length db) ∧ W.cell? ⟨w5.heap.size, 0, none⟩ = some (.slice As SA.length cs) ∧ W.cell? ⟨w5.heap.size, 1, none⟩ = some (.slice Ds S.length ds) ∧ W.cell? ⟨w6.heap.size, 0, none⟩ = some (.slice At SB.length ct) ∧ W.cell? ⟨w6.heap.size, 1, none⟩ = some (.slice Dt T.length dt) ∧ I W) → Below w.heap.size w W := fun h => ((hI _).1 (hIof h)).1
    have ga : ∀ {W : World}, (W.cell? ⟨w3.heap.size, 0, none⟩ = some (.slice Aa SA.length ca) ∧ W.cell? ⟨w3.heap.size, 1, none⟩ = some (.slice Da X.length da) ∧ W.cell? ⟨w4.heap.size, 0, none⟩ = some (.slice Ab SB.length cb) ∧ W.cell? ⟨w4.heap.size, 1, none⟩ = some (.slice Db Y.length db) ∧ W.cell? ⟨w5.heap.size, 0, none⟩ = some (.slice As SA.length cs) ∧ W.cell? ⟨w5.heap.size, 1, none⟩ = some (.slice Ds S.length ds) ∧ W.cell? ⟨w6.heap.size, 0, none⟩ = some (.slice At SB.length ct) ∧ W.cell? ⟨w6.heap.size, 1, none⟩ = some (.slice Dt T.length dt) ∧ I W) → RelBx W w3.heap.size Aa ca SA Da da X := fun h => ((hI _).1 (hIof h)).2.1
    have gb : ∀ {W : World}, (W.cell? ⟨w3.heap.size, 0, none⟩ = some (.slice Aa SA.length ca) ∧ W.cell? ⟨w3.heap.size, 1, none⟩ = some (.slice Da X.length da) ∧ W.cell? ⟨w4.heap.size, 0, none⟩ = some (.slice Ab SB.length cb) ∧ W.cell? ⟨w4.heap.size, 1, none⟩ = some (.slice Db Y.length db) ∧ W.cell? ⟨w5.heap.size, 0, none⟩ = some (.slice As SA.length cs) ∧ W.cell? ⟨w5.heap.size, 1, none⟩ = some (.slice Ds S.length ds) ∧ W.cell? ⟨w6.heap.size, 0, none⟩ = some (.slice At SB.length ct) ∧ W.cell? ⟨w6.heap.size, 1, none⟩ = some (.slice Dt T.length dt) ∧ I W) → RelBx W w4.heap.size Ab cb SB Db db Y := fun h => ((hI _).1 (hIof h)).2.2.1
    have gs : ∀ {W : World}, (W.cell? ⟨w3.heap.size, 0, none⟩ = some (.slice Aa SA.length ca) ∧ W.cell? ⟨w3.heap.size, 1, none⟩ = some (.slice Da X.length da) ∧ W.cell? ⟨w4.heap.size, 0, none⟩ = some (.slice Ab SB.length cb) ∧ W.cell? ⟨w4.heap.size, 1, none⟩ = some (.slice Db Y.length db) ∧ W.cell? ⟨w5.heap.size, 0, none⟩ = some (.slice As SA.length cs) ∧ W.cell? ⟨w5.heap.size, 1, none⟩ = some (.slice Ds S.length ds) ∧ W.cell? ⟨w6.heap.size, 0, none⟩ = some (.slice At SB.length ct) ∧ W.cell? ⟨w6.heap.size, 1, none⟩ = some (.slice Dt T.length dt) ∧ I W) → RelBx W w5.heap.size As cs SA Ds ds S := fun h => ((hI _).1 (hIof h)).2.2.2.1
    have gt : ∀ {W : World}, (W.cell? ⟨w3.heap.size, 0, none⟩ = some (.slice Aa SA.length ca) ∧ W.cell? ⟨w3.heap.size, 1, none⟩ = some (.slice Da X.length da) ∧ W.cell? ⟨w4.heap.size, 0, none⟩ = some (.slice Ab SB.length cb) ∧ W.cell? ⟨w4.heap.size, 1, none⟩ = some (.slice Db Y.length db) ∧ W.cell? ⟨w5.heap.size, 0, none⟩ = some (.slice As SA.length cs) ∧ W.cell? ⟨w5.heap.size, 1, none⟩ = some (.slice Ds S.length ds) ∧ W.cell? ⟨w6.heap.size, 0, none⟩ = some (.slice At SB.length ct) ∧ W.cell? ⟨w6.heap.size, 1, none⟩ = some (.slice Dt T.length dt) ∧ I W) → RelBx W w6.heap.size At ct SB Dt dt T := fun h => ((hI _).1 (hIof h)).2.2.2.2
    replace hI := Aside0.mk @hI
    replace hIst := Aside0.mk @hIst
    replace hIal := Aside0.mk @hIal
    replace hIof := Aside0.mk @hIof
    replace hstep := Aside0.mk @hstep
    replace gB := Aside0.mk @gB
    replace ga := Aside0.mk @ga
    replace gb := Aside0.mk @gb
    replace gs := Aside0.mk @gs
    replace gt := Aside0.mk @gt
    have HS0A := Aside0.mk (hIal.out ((hI.out _).2 ⟨HB7.out, Ha7.out, Hb7.out, Hs7.out, Ht7.out⟩))
    have HSDA := Aside0.mk (hstep.out HS0A.out (below_drew (Below.refl _ _)))
    go_region_held3 (fun W => W.cell? ⟨w3.heap.size, 0, none⟩ = some (.slice Aa SA.length ca) ∧ W.cell? ⟨w3.heap.size, 1, none⟩ = some (.slice Da X.length da) ∧ W.cell? ⟨w4.heap.size, 0, none⟩ = some (.slice Ab SB.length cb) ∧ W.cell? ⟨w4.heap.size, 1, none⟩ = some (.slice Db Y.length db) ∧ W.cell? ⟨w5.heap.size, 0, none⟩ = some (.slice As SA.length cs) ∧ W.cell? ⟨w5.heap.size, 1, none⟩ = some (.slice Ds S.length ds) ∧ W.cell? ⟨w6.heap.size, 0, none⟩ = some (.slice At SB.length ct) ∧ W.cell? ⟨w6.heap.size, 1, none⟩ = some (.slice Dt T.length dt) ∧ I W)
      (first | with_reducible exact HS4A.out | with_reducible exact HS3A.out | with_reducible exact HS2A.out | with_reducible exact HS1A.out | with_reducible exact HSDA.out | with_reducible exact HS0A.out | with_reducible exact HSB.out | with_reducible exact hstep.out HS4A.out (below_alloc (Below.refl _ _) _) | with_reducible exact hstep.out HS3A.out (below_alloc (Below.refl _ _) _) | with_reducible exact hstep.out HS2A.out (below_alloc (Below.refl _ _) _) | with_reducible exact hstep.out HS1A.out (below_alloc (Below.refl _ _) _) | with_reducible exact hstep.out (by assumption) (below_alloc (Below.refl _ _) _) | with_reducible exact hstep.out (by assumption) (below_drew (Below.refl _ _)))
      (first
        | (have hgd := HS3A; clear hgd; go_at_call 17; refine (agree_rt (ga.out (by assumption)).rd HRT.out.1 (gb.out (by assumption)).rd HRT.out.2.1 false (by simpa using HE.out.2.2.2.2.1)).mono ?_; rintro e v4 ⟨rfl, hb4⟩; have hS4 := hstep.out (by assumption) hb4; have HS4A := Aside0.mk hS4; clear hS4 hb4)
        | (have hgd := HS2A; clear hgd; go_at_call 17; refine (agree_rt (gb.out (by assumption)).rd HRT.out.2.1 (ga.out (by assumption)).rd HRT.out.1 false (by simpa using HE.out.2.2.2.2.2.1)).mono ?_; rintro e v3 ⟨rfl, hb3⟩; have hS3 := hstep.out (by assumption) hb3; have HS3A := Aside0.mk hS3; clear hS3 hb3)
        | (have hgd := HS1A; clear hgd; go_at_call 17; refine (agree_rt (gs.out (by assumption)).rd HRT.out.2.2.1 (gt.out (by assumption)).rd HRT.out.2.2.2 true HE.out.2.2.2.2.2.2).mono ?_; rintro e v2 ⟨rfl, hb2⟩; have hS2 := hstep.out (by assumption) hb2; have HS2A := Aside0.mk hS2; clear hS2 hb2)
        | (go_at_call 17; refine (agree_rt (ga.out (by assumption)).rd HRT.out.1 (gb.out (by assumption)).rd HRT.out.2.1 false (by simpa using HE.out.2.2.2.2.1)).mono ?_; rintro e v1 ⟨rfl, hb1⟩; have hS1 := hstep.out (by assumption) hb1; have HS1A := Aside0.mk hS1; clear hS1 hb1))
    all_goals
      go_wp2
      go_ret
      exact ⟨by cases b2 <;> rfl, gB.out HS4A.out⟩
  · go_enter Tryd.func4, Tryd.ntmps4
    go_wp2_with (first
      | (have hgd := HB7; clear hgd; go_at_call 15; refine (same_rt Ht7.out.rd (by omega) Hb7.out.rd b2 (by simpa using HE.out.2.2.2.1)).mono ?_; rintro e w8 ⟨rfl, hb8⟩; have HB8 := Aside0.mk (below_then HB7.out HB7.out.size hb8); have Ha8 := Aside0.mk (Ha7.out.step hb8); have Hb8 := Aside0.mk (Hb7.out.step hb8); have Hs8 := Aside0.mk (Hs7.out.step hb8); have Ht8 := Aside0.mk (Ht7.out.step hb8); have qa0_8 := blk2_c0 Ha8.out.blk; have qa1_8 := blk2_c1 Ha8.out.blk; have qb0_8 := blk2_c0 Hb8.out.blk; have qb1_8 := blk2_c1 Hb8.out.blk; have qs0_8 := blk2_c0 Hs8.out.blk; have qs1_8 := blk2_c1 Hs8.out.blk; have qt0_8 := blk2_c0 Ht8.out.blk; have qt1_8 := blk2_c1 Ht8.out.blk; clear hb8 Ha7 Hb7 Hs7 Ht7 qa0_7 qa1_7 qb0_7 qb1_7 qs0_7 qs1_7 qt0_7 qt1_7)
      | (have hgd := HB6; clear hgd; go_at_call 15; refine (same_rt Hs6.out.rd (by omega) Ha6.out.rd true (by simpa using HE.out.2.2.1)).mono ?_; rintro e w7 ⟨rfl, hb7⟩; have HB7 := Aside0.mk (below_then HB6.out HB6.out.size hb7); have Ha7 := Aside0.mk (Ha6.out.step hb7); have Hb7 := Aside0.mk (Hb6.out.step hb7); have Hs7 := Aside0.mk (Hs6.out.step hb7); have Ht7 := Aside0.mk (Ht6.out.step hb7); have qa0_7 := blk2_c0 Ha7.out.blk; have qa1_7 := blk2_c1 Ha7.out.blk; have qb0_7 := blk2_c0 Hb7.out.blk; have qb1_7 := blk2_c1 Hb7.out.blk; have qs0_7 := blk2_c0 Hs7.out.blk; have qs1_7 := blk2_c1 Hs7.out.blk; have qt0_7 := blk2_c0 Ht7.out.blk; have qt1_7 := blk2_c1 Ht7.out.blk; clear hb7 Ha6 Hb6 Hs6 Ht6 qa0_6 qa1_6 qb0_6 qb1_6 qs0_6 qs1_6 qt0_6 qt1_6)
      | (have hgd := HB5; clear hgd; go_at_call 13; refine (semi_rt Hb5.out.rd HRT.out.2.1 Ha5.out.rd HRT.out.1 (HT.out.step HB5.out) HE.out.2.1).mono ?_; rintro e w6 ⟨At, ct, Dt, dt, rfl, hr6, hb6⟩; have hx6 := below_box hb6 (.cells #[.slice At SB.length ct, .slice Dt T.length dt] 27); have HB6 := Aside0.mk (below_then HB5.out HB5.out.size hx6); have Ha6 := Aside0.mk (Ha5.out.step hx6); have Hb6 := Aside0.mk (Hb5.out.step hx6); have Hs6 := Aside0.mk (Hs5.out.step hx6); have Ht6 := Aside0.mk (RelBx.new hr6); have qa0_6 := blk2_c0 Ha6.out.blk; have qa1_6 := blk2_c1 Ha6.out.blk; have qb0_6 := blk2_c0 Hb6.out.blk; have qb1_6 := blk2_c1 Hb6.out.blk; have qs0_6 := blk2_c0 Hs6.out.blk; have qs1_6 := blk2_c1 Hs6.out.blk; have qt0_6 := blk2_c0 Ht6.out.blk; have qt1_6 := blk2_c1 Ht6.out.blk; clear hb6 hr6 hx6 Ha5 Hb5 Hs5 qa0_5 qa1_5 qb0_5 qb1_5 qs0_5 qs1_5)
      | (have hgd := HB4; clear hgd; go_at_call 13; refine (semi_rt Ha4.out.rd HRT.out.1 Hb4.out.rd HRT.out.2.1 (HT.out.step HB4.out) HE.out.1).mono ?_; rintro e w5 ⟨As, cs, Ds, ds, rfl, hr5, hb5⟩; have hx5 := below_box hb5 (.cells #[.slice As SA.length cs, .slice Ds S.length ds] 27); have HB5 := Aside0.mk (below_then HB4.out HB4.out.size hx5); have Ha5 := Aside0.mk (Ha4.out.step hx5); have Hb5 := Aside0.mk (Hb4.out.step hx5); have Hs5 := Aside0.mk (RelBx.new hr5); have qa0_5 := blk2_c0 Ha5.out.blk; have qa1_5 := blk2_c1 Ha5.out.blk; have qb0_5 := blk2_c0 Hb5.out.blk; have qb1_5 := blk2_c1 Hb5.out.blk; have qs0_5 := blk2_c0 Hs5.out.blk; have qs1_5 := blk2_c1 Hs5.out.blk; clear hb5 hr5 hx5 Ha4 Hb4 qa0_4 qa1_4 qb0_4 qb1_4)
      | (have hgd := HB3; clear hgd; go_at_call 12; refine (small3_is _ _ sy _ _ ry _ Hpy3.out.rd.row Hpy3.out.rd.cap Hpy3.out.rd.rows Hpy3.out.rd.cap2 HFy.out).mono ?_; rintro e w4 ⟨Ab, cb, Db, db, rfl, hr4, hb4⟩; have hx4 := below_box hb4 (.cells #[.slice Ab SB.length cb, .slice Db Y.length db] 27); have HB4 := Aside0.mk (below_then HB3.out HB3.out.size hx4); have Ha4 := Aside0.mk (Ha3.out.step hx4); have Hb4 := Aside0.mk (RelBx.new hr4); have qa0_4 := blk2_c0 Ha4.out.blk; have qa1_4 := blk2_c1 Ha4.out.blk; have qb0_4 := blk2_c0 Hb4.out.blk; have qb1_4 := blk2_c1 Hb4.out.blk; clear hb4 hr4 hx4 Hpy3 Ha3 qpy0_3 qpy1_3 qa0_3 qa1_3)
      | (have hgd := HB2; clear hgd; go_at_call 12; refine (small3_is _ _ sx _ _ rx _ Hpx2.out.rd.row Hpx2.out.rd.cap Hpx2.out.rd.rows Hpx2.out.rd.cap2 HFx.out).mono ?_; rintro e w3 ⟨Aa, ca, Da, da, rfl, hr3, hb3⟩; have hx3 := below_box hb3 (.cells #[.slice Aa SA.length ca, .slice Da X.length da] 27); have HB3 := Aside0.mk (below_then HB2.out HB2.out.size hx3); have Hpy3 := Aside0.mk (Hpy2.out.step hx3); have Ha3 := Aside0.mk (RelBx.new hr3); have qpy0_3 := blk2_c0 Hpy3.out.blk; have qpy1_3 := blk2_c1 Hpy3.out.blk; have qa0_3 := blk2_c0 Ha3.out.blk; have qa1_3 := blk2_c1 Ha3.out.blk; clear hb3 hr3 hx3 Hpx2 Hpy2 qpx0_2 qpx1_2 qpy0_2 qpy1_2)
      | (have hgd := HB1; clear hgd; go_at_call 11; refine (shown3_any _ (HT.out.step HB1.out)).mono ?_; rintro e w2 ⟨rfl, hb2⟩; have HB2 := Aside0.mk (below_then HB1.out HB1.out.size hb2); have Hpx2 := Aside0.mk (Hpx1.out.step hb2); have Hpy2 := Aside0.mk (Hpy1.out.step hb2); have qpx0_2 := blk2_c0 Hpx2.out.blk; have qpx1_2 := blk2_c1 Hpx2.out.blk; have qpy0_2 := blk2_c0 Hpy2.out.blk; have qpy1_2 := blk2_c1 Hpy2.out.blk; clear hb2 Hpx1 Hpy1 qpx0_1 qpx1_1 qpy0_1 qpy1_1))
    clear qa0_8 qa1_8 qb0_8 qb1_8 qs0_8 qs1_8 qt0_8 qt1_8
    obtain ⟨I, hI⟩ : ∃ I : World → Prop, ∀ W, I W ↔ (Below w.heap.size w W ∧ RelBx W w3.heap.size Aa ca SA Da da X ∧ RelBx W w4.heap.size Ab cb SB Db db Y ∧ RelBx W w5.heap.size As cs SA Ds ds S ∧ RelBx W w6.heap.size At ct SB Dt dt T) := ⟨_, fun _ => Iff.rfl⟩
    have hIst : ∀ {W W1 : World}, I W → Below W.heap.size W W1 → I W1 := fun h hb => by
      obtain ⟨h0, h1, h2, h3, h4⟩ := (hI _).1 h
      exact (hI _).2 ⟨below_then h0 h0.size hb, h1.step hb, h2.step hb, h3.step hb, h4.step hb⟩
    have hIal : ∀ {W : World}, I W → (W.cell? ⟨w3.heap.size, 0, none⟩ = some (.slice Aa SA.length ca) ∧ W.cell? ⟨w3.heap.size, 1, none⟩ = some (.slice Da X.length da) ∧ W.cell? ⟨w4.heap.size, 0, none⟩ = some (.slice Ab SB.length cb) ∧ W.cell? ⟨w4.heap.size, 1, none⟩ = some (.slice Db Y.length db) ∧ W.cell? ⟨w5.heap.size, 0, none⟩ = some (.slice As SA.length cs) ∧ W.cell? ⟨w5.heap.size, 1, none⟩ = some (.slice Ds S.length ds) ∧ W.cell? ⟨w6.heap.size, 0, none⟩ = some (.slice At SB.length ct) ∧ W.cell? ⟨w6.heap.size, 1, none⟩ = some (.slice Dt T.length dt) ∧ I W) := fun h => by
      obtain ⟨h0, h1, h2, h3, h4⟩ := (hI _).1 h
      exact ⟨blk2_c0 h1.blk, blk2_c1 h1.blk, blk2_c0 h2.blk, blk2_c1 h2.blk, blk2_c0 h3.blk, blk2_c1 h3.blk, blk2_c0 h4.blk, blk2_c1 h4.blk, h⟩
    have hIof : ∀ {W : World}, (W.cell? ⟨w3.heap.size, 0, none⟩ = some (.slice Aa SA.length ca) ∧ W.cell? ⟨w3.heap.size, 1, none⟩ = some (.slice Da X.length da) ∧ W.cell? ⟨w4.heap.size, 0, none⟩ = some (.slice Ab SB.length cb) ∧ W.cell? ⟨w4.heap.size, 1, none⟩ = some (.slice Db Y.length db) ∧ W.cell? ⟨w5.heap.size, 0, none⟩ = some (.slice As SA.length cs) ∧ W.cell? ⟨w5.heap.size, 1, none⟩ = some (.slice Ds S.length ds) ∧ W.cell? ⟨w6.heap.size, 0, none⟩ = some (.slice At SB.length ct) ∧ W.cell? ⟨w6.heap.size, 1, none⟩ = some (.slice Dt T.length dt) ∧ I W) → I W := fun h => h.2.2.2.2.2.2.2.2
    have hstep : ∀ {W W1 : World}, (W.cell? ⟨w3.heap.size, 0, none⟩ = some (.slice Aa SA.length ca) ∧ W.cell? ⟨w3.heap.size, 1, none⟩ = some (.slice Da X.length da) ∧ W.cell? ⟨w4.heap.size, 0, none⟩ = some (.slice Ab SB.length cb) ∧ W.cell? ⟨w4.heap.size, 1, none⟩ = some (.slice Db Y.length db) ∧ W.cell? ⟨w5.heap.size, 0, none⟩ = some (.slice As SA.length cs) ∧ W.cell? ⟨w5.heap.size, 1, none⟩ = some (.slice Ds S.length ds) ∧ W.cell? ⟨w6.heap.size, 0, none⟩ = some (.slice At SB.length ct) ∧ W.cell? ⟨w6.heap.size, 1, none⟩ = some (.slice Dt T.length dt) ∧ I W) → Below W.heap.size W W1 → (W1.cell? ⟨w3.heap.size, 0, none⟩ = some (.slice Aa SA.length ca) ∧ W1.cell? ⟨w3.heap.size, 1, none⟩ = some (.slice Da X.length da) ∧ W1.cell? ⟨w4.heap.size, 0, none⟩ = some (.slice Ab SB.length cb) ∧ W1.cell? ⟨w4.heap.size, 1, none⟩ = some (.slice Db Y.length db) ∧ W1.cell? ⟨w5.heap.size, 0, none⟩ = some (.slice As SA.length cs) ∧ W1.cell? ⟨w5.heap.size, 1, none⟩ = some (.slice Ds S.length ds) ∧ W1.cell? ⟨w6.heap.size, 0, none⟩ = some (.slice At SB.length ct) ∧ W1.cell? ⟨w6.heap.size, 1, none⟩ = some (.slice Dt T.length dt) ∧ I W1) := fun h hb => hIal (hIst (hIof h) hb)
    have gB : ∀ {W : World}, (W.cell? ⟨w3.heap.size, 0, none⟩ = some (.slice Aa SA.length ca) ∧ W.cell? ⟨w3.heap.size, 1, none⟩ = some (.slice Da X.length da) ∧ W.cell? ⟨w4.heap.size, 0, none⟩ = some (.slice Ab SB.length cb) ∧ W.cell? ⟨w4.heap.size, 1, none⟩ = some (.slice Db Y.length db) ∧ W.cell? ⟨w5.heap.size, 0, none⟩ = some (.slice As SA.length cs) ∧ W.cell? ⟨w5.heap.size, 1, none⟩ = some (.slice Ds S.length ds) ∧ W.cell? ⟨w6.heap.size, 0, none⟩ = some (.slice At SB.length ct) ∧ W.cell? ⟨w6.heap.size, 1, none⟩ = some (.slice Dt T.length dt) ∧ I W) → Below w.heap.size w W := fun h => ((hI _).1 (hIof h)).1
    have ga : ∀ {W : World}, (W.cell? ⟨w3.heap.size, 0, none⟩ = some (.slice Aa SA.length ca) ∧ W.cell? ⟨w3.heap.size, 1, none⟩ = some (.slice Da X.length da) ∧ W.cell? ⟨w4.heap.size, 0, none⟩ = some (.slice Ab SB.length cb) ∧ W.cell? ⟨w4.heap.size, 1, none⟩ = some (.slice Db Y.length db) ∧ W.cell? ⟨w5.heap.size, 0, none⟩ = some (.slice As SA.length cs) ∧ W.cell? ⟨w5.heap.size, 1, none⟩ = some (.slice Ds S.length ds) ∧ W.cell? ⟨w6.heap.size, 0, none⟩ = some (.slice At SB.length ct) ∧ W.cell? ⟨w6.heap.size, 1, none⟩ = some (.slice Dt T.length dt) ∧ I W) → RelBx W w3.heap.size Aa ca SA Da da X := fun h => ((hI _).1 (hIof h)).2.1
    have gb : ∀ {W : World}, (W.cell? ⟨w3.heap.size, 0, none⟩ = some (.slice Aa SA.length ca) ∧ W.cell? ⟨w3.heap.size, 1, none⟩ = some (.slice Da X.length da) ∧ W.cell? ⟨w4.heap.size, 0, none⟩ = some (.slice Ab SB.length cb) ∧ W.cell? ⟨w4.heap.size, 1, none⟩ = some (.slice Db Y.length db) ∧ W.cell? ⟨w5.heap.size, 0, none⟩ = some (.slice As SA.length cs) ∧ W.cell? ⟨w5.heap.size, 1, none⟩ = some (.slice Ds S.length ds) ∧ W.cell? ⟨w6.heap.size, 0, none⟩ = some (.slice At SB.length ct) ∧ W.cell? ⟨w6.heap.size, 1, none⟩ = some (.slice Dt T.length dt) ∧ I W) → RelBx W w4.heap.size Ab cb SB Db db Y := fun h => ((hI _).1 (hIof h)).2.2.1
    have gs : ∀ {W : World}, (W.cell? ⟨w3.heap.size, 0, none⟩ = some (.slice Aa SA.length ca) ∧ W.cell? ⟨w3.heap.size, 1, none⟩ = some (.slice Da X.length da) ∧ W.cell? ⟨w4.heap.size, 0, none⟩ = some (.slice Ab SB.length cb) ∧ W.cell? ⟨w4.heap.size, 1, none⟩ = some (.slice Db Y.length db) ∧ W.cell? ⟨w5.heap.size, 0, none⟩ = some (.slice As SA.length cs) ∧ W.cell? ⟨w5.heap.size, 1, none⟩ = some (.slice Ds S.length ds) ∧ W.cell? ⟨w6.heap.size, 0, none⟩ = some (.slice At SB.length ct) ∧ W.cell? ⟨w6.heap.size, 1, none⟩ = some (.slice Dt T.length dt) ∧ I W) → RelBx W w5.heap.size As cs SA Ds ds S := fun h => ((hI _).1 (hIof h)).2.2.2.1
    have gt : ∀ {W : World}, (W.cell? ⟨w3.heap.size, 0, none⟩ = some (.slice Aa SA.length ca) ∧ W.cell? ⟨w3.heap.size, 1, none⟩ = some (.slice Da X.length da) ∧ W.cell? ⟨w4.heap.size, 0, none⟩ = some (.slice Ab SB.length cb) ∧ W.cell? ⟨w4.heap.size, 1, none⟩ = some (.slice Db Y.length db) ∧ W.cell? ⟨w5.heap.size, 0, none⟩ = some (.slice As SA.length cs) ∧ W.cell? ⟨w5.heap.size, 1, none⟩ = some (.slice Ds S.length ds) ∧ W.cell? ⟨w6.heap.size, 0, none⟩ = some (.slice At SB.length ct) ∧ W.cell? ⟨w6.heap.size, 1, none⟩ = some (.slice Dt T.length dt) ∧ I W) → RelBx W w6.heap.size At ct SB Dt dt T := fun h => ((hI _).1 (hIof h)).2.2.2.2
    replace hI := Aside0.mk @hI
    replace hIst := Aside0.mk @hIst
    replace hIal := Aside0.mk @hIal
    replace hIof := Aside0.mk @hIof
    replace hstep := Aside0.mk @hstep
    replace gB := Aside0.mk @gB
    replace ga := Aside0.mk @ga
    replace gb := Aside0.mk @gb
    replace gs := Aside0.mk @gs
    replace gt := Aside0.mk @gt
    have HS0A := Aside0.mk (hIal.out ((hI.out _).2 ⟨HB8.out, Ha8.out, Hb8.out, Hs8.out, Ht8.out⟩))
    have HSDA := Aside0.mk (hstep.out HS0A.out (below_drew (Below.refl _ _)))
    go_region_held3 (fun W => W.cell? ⟨w3.heap.size, 0, none⟩ = some (.slice Aa SA.length ca) ∧ W.cell? ⟨w3.heap.size, 1, none⟩ = some (.slice Da X.length da) ∧ W.cell? ⟨w4.heap.size, 0, none⟩ = some (.slice Ab SB.length cb) ∧ W.cell? ⟨w4.heap.size, 1, none⟩ = some (.slice Db Y.length db) ∧ W.cell? ⟨w5.heap.size, 0, none⟩ = some (.slice As SA.length cs) ∧ W.cell? ⟨w5.heap.size, 1, none⟩ = some (.slice Ds S.length ds) ∧ W.cell? ⟨w6.heap.size, 0, none⟩ = some (.slice At SB.length ct) ∧ W.cell? ⟨w6.heap.size, 1, none⟩ = some (.slice Dt T.length dt) ∧ I W)
      (first | with_reducible exact HS4A.out | with_reducible exact HS3A.out | with_reducible exact HS2A.out | with_reducible exact HS1A.out | with_reducible exact HSDA.out | with_reducible exact HS0A.out | with_reducible exact HSB.out | with_reducible exact hstep.out HS4A.out (below_alloc (Below.refl _ _) _) | with_reducible exact hstep.out HS3A.out (below_alloc (Below.refl _ _) _) | with_reducible exact hstep.out HS2A.out (below_alloc (Below.refl _ _) _) | with_reducible exact hstep.out HS1A.out (below_alloc (Below.refl _ _) _) | with_reducible exact hstep.out (by assumption) (below_alloc (Below.refl _ _) _) | with_reducible exact hstep.out (by assumption) (below_drew (Below.refl _ _)))
      (first
        | (have hgd := HS3A; clear hgd; go_at_call 17; refine (agree_rt (ga.out (by assumption)).rd HRT.out.1 (gb.out (by assumption)).rd HRT.out.2.1 b2 (by simpa using HE.out.2.2.2.2.1)).mono ?_; rintro e v4 ⟨rfl, hb4⟩; have hS4 := hstep.out (by assumption) hb4; have HS4A := Aside0.mk hS4; clear hS4 hb4)
        | (have hgd := HS2A; clear hgd; go_at_call 17; refine (agree_rt (gb.out (by assumption)).rd HRT.out.2.1 (ga.out (by assumption)).rd HRT.out.1 b2 (by simpa using HE.out.2.2.2.2.2.1)).mono ?_; rintro e v3 ⟨rfl, hb3⟩; have hS3 := hstep.out (by assumption) hb3; have HS3A := Aside0.mk hS3; clear hS3 hb3)
        | (have hgd := HS1A; clear hgd; go_at_call 17; refine (agree_rt (gs.out (by assumption)).rd HRT.out.2.2.1 (gt.out (by assumption)).rd HRT.out.2.2.2 true HE.out.2.2.2.2.2.2).mono ?_; rintro e v2 ⟨rfl, hb2⟩; have hS2 := hstep.out (by assumption) hb2; have HS2A := Aside0.mk hS2; clear hS2 hb2)
        | (go_at_call 17; refine (agree_rt (ga.out (by assumption)).rd HRT.out.1 (gb.out (by assumption)).rd HRT.out.2.1 b2 (by simpa using HE.out.2.2.2.2.1)).mono ?_; rintro e v1 ⟨rfl, hb1⟩; have hS1 := hstep.out (by assumption) hb1; have HS1A := Aside0.mk hS1; clear hS1 hb1))
    all_goals
      go_wp2
      go_ret
      exact ⟨by cases b2 <;> rfl, gB.out HS4A.out⟩
end Go.Proofs.YtnmonjincnlhiaaDoor.G

namespace Go.Proofs.YtnmonjincnlhiaaDoor.joinAgrees
open Go.ChangeShapes Go.WideShapes Go.ChangeAt Go.RowKit Go.Proofs.YtnmonjincnlhiaaDoorW.PrintWords Go.Proofs.YtnmonjincnlhiaaDoorW.PrintLast Go.Proofs.YtnmonjincnlhiaaDoorW.PrintMore Go.Proofs.YtnmonjincnlhiaaDoor.PRefs
set_option linter.unusedVariables false
theorem own : ownKnob Tryd.prog.godebug = none := by kernel_rfl
theorem laidOut : laidOutB Tryd.prog = true := by kernel_rfl
set_option maxRecDepth 100000 in
theorem lifted (os : Os) (started : os.Started) (H : Type) (enc : TypeId × Value → H) :
    ReturnsInHanded {} Tryd.checked os 4 .any (fun w args => (Rows.joinAgreesSpec.pre enc Tryd.prog Tryd.f4 [] false w args ∧ laidMetH Tryd.prog G.laidList w) ∧ sizedMet enc Tryd.prog Tryd.f4 (OpenSpec.ofChange Rows.joinAgreesSpec) false w args)
      (Rows.joinAgreesSpec.post enc Tryd.prog Tryd.f4 false true false false) := by
  refine returnsInHanded_of_change_and (C := Tryd.checked) (X := fun w _ => laidMetH Tryd.prog G.laidList w) (fun _ _ _ hh h => h.of_heap hh) own started (by kernel_rfl) Tryd.func4
    (ChangeSpec.witness_shaped (enc := enc) (C := Tryd.checked) (os := os) (X := fun w _ => laidMetH Tryd.prog G.laidList w) false (World.doorLaid Tryd.prog 400 os) #[.agg #[.slice none 0 0, .slice none 0 0], .agg #[.slice none 0 0, .slice none 0 0]] 8 rfl (World.shaped_of_RefB (by kernel_rfl) (by kernel_rfl)) (by kernel_rfl) (by kernel_rfl) (by kernel_rfl) (G.door_met os _)) ?_
  intro W base args ds gs before hval0 hW _ _ hL _
  have htab := G.tab_of hL
  have hval : ∀ (j : Nat) t v, Tryd.f4.params[j]? = some t → args[j]? = some v → Value.okWide Tryd.prog W .any base t v := hval0
  have hW' := hW
  obtain ⟨p, q, hA0, hV, rfl, hfz, hnd⟩ := hW
  have hA : DataW.TrodAll enc Tryd.prog W 0 (fun _ => true) true Tryd.f4.params.toList args.toList ds p := hA0
  rw [Tryd.params4] at hA hval
  obtain ⟨v0, vs0, d0, ds0, p0, q0, hargs, rfl, rfl, h0, r0⟩ := trodAll_cons hA
  obtain ⟨v1, vs1, d1, ds1, p1, q1, rfl, rfl, rfl, h1, r1⟩ := trodAll_cons r0
  obtain ⟨rfl, rfl, rfl⟩ := trodAll_nil r1
  obtain rfl : args = #[v0, v1] := by cases args; simp_all
  obtain ⟨rfl, rfl⟩ := trodVars_none hV
  obtain ⟨cs0, rfl, hcs0⟩ := okWide_struct Tryd.underlying25 (hval 0 25 v0 rfl rfl)
  obtain ⟨cs1, rfl, hcs1⟩ := okWide_struct Tryd.underlying25 (hval 1 25 v1 rfl rfl)
  have k0 := h0
  have lt0 : ∀ x ∈ p0, x.block < W.heap.size := by obtain ⟨m, hm⟩ := k0; exact DataW.trod_lt m _ _ _ hm
  have k1 := h1
  have lt1 : ∀ x ∈ p1, x.block < W.heap.size := by obtain ⟨m, hm⟩ := k1; exact DataW.trod_lt m _ _ _ hm
  obtain ⟨a0, cap0, z0, ar0, capr0, zr0, rfl, c0⟩ : ∃ A c sc A' c' L, cs0 = #[.slice A sc.length c, .slice A' L.length c'] ∧ G.RelRd W A c sc A' c' L := by obtain ⟨m, hm⟩ := h0; exact G.in_part hm
  obtain ⟨a1, cap1, z1, ar1, capr1, zr1, rfl, c1⟩ : ∃ A c sc A' c' L, cs1 = #[.slice A sc.length c, .slice A' L.length c'] ∧ G.RelRd W A c sc A' c' L := by obtain ⟨m, hm⟩ := h1; exact G.in_part hm
  clear hA0 hval0
  refine (G.joinagrees_walk a0 cap0 z0 ar0 capr0 zr0 a1 cap1 z1 ar1 capr1 zr1 W c0 c1 htab).mono fun e W' ⟨he, bel⟩ => ?_
  subst he
  exact ⟨_, rfl, _, _, _, [], _, [], hW', trodAll_mk1 (shut_bool Tryd.underlying4 _), (trodAll_cons_mk (Below.trod laidOut (by kernel_rfl) (of_decide_eq_true (by kernel_rfl)) k0 bel lt0) (trodAll_cons_mk (Below.trod laidOut (by kernel_rfl) (of_decide_eq_true (by kernel_rfl)) k1 bel lt1) trodAll_mk0)), rfl, bel.frame _, fun h => by cases h⟩
theorem over : Rows.joinAgreesRow.holds Tryd.pinned (OpenSpec.ofChange Rows.joinAgreesSpec) :=
  OpenClaim.holds_of_wide 4 Tryd.f4 rfl rfl rfl rfl rfl rfl rfl ⟨rfl, rfl, rfl, rfl, rfl⟩ rfl rfl rfl rfl rfl (by kernel_rfl) Tryd.func4 (by kernel_rfl)
    (of_decide_eq_true (by kernel_rfl)) (by unfold Func.isWrapper; first | (rw [if_pos (by decide +kernel)]; kernel_rfl) | (rw [if_neg (by decide +kernel)]; exact ⟨rfl, rfl⟩))
    (fun os started H enc _ => lifted os started H enc)
theorem proved : Rows.JoinAgreesCardSaid :=
  Claim7.holds_tied_plain_at .later [] [.data, .data, .data] true Rows.joinAgreesCard.stood.harness false
    over (fun _ h => by cases h) (by kernel_rfl) (fun _ h => by cases h) joinAgrees_row_tie rfl ⟨rfl, rfl⟩ (by kernel_rfl) rfl
    (fun f fn hf hfn => by
      obtain rfl : f = 4 := Option.some.inj ((show Tryd.prog.funcNamed "arborist/arboristlaw03.JoinAgrees" = some 4 by kernel_rfl).symm.trans hf) |>.symm
      obtain rfl : fn = Tryd.f4 := (Option.some.inj (Tryd.func4.symm.trans hfn)).symm
      exact ⟨by kernel_rfl, fun j t ht => by
        rw [Tryd.params4] at ht
        have hm : t ∈ [25, 25] := by simpa using Array.mem_of_getElem? ht
        have hall : ([25, 25].all fun u => !Tryd.prog.wantsStandIn u) = true := by kernel_rfl
        exact (show Tryd.prog.wantsStandIn t = false by simpa using List.all_eq_true.1 hall t hm)⟩)
    (by kernel_rfl)
#print axioms proved
end Go.Proofs.YtnmonjincnlhiaaDoor.joinAgrees
