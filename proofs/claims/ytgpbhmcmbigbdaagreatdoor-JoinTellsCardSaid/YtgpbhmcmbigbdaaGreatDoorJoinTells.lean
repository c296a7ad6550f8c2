/- Proved: for every input the law arboristlaw03.JoinTells returns true and its arguments read as they did; what the program's tables hold at the start is tied to the program's text. No condition. -/
import Derived.Test.YtgpbhmcmbigbdaaGreatDoorRows
import Derived.Test.YtgpbhmcmbigbdaaGreatDoorCards
import Derived.Test.YtgpbhmcmbigbdaaGreatDoorTie
import Derived.Test.YtgpbhmcmbigbdaaGreatDoorMQ
import Derived.Test.YtgpbhmcmbigbdaaGreatDoorMR
import Derived.Deep.Matrix
import Derived.ProofKit
import Derived.OpenShut
import Derived.WalkKit
import Derived.ShutString
import Derived.ChangeOld
import Derived.Below
import Derived.SevenTiedAt
import Derived.Stop.Joined
import Derived.Deep.DeepCutAuto
set_option linter.unusedVariables false
set_option linter.unusedSimpArgs false
namespace Go.Proofs.YtgpbhmcmbigbdaaGreatDoor.G
open Go.RowKit Go.Proofs.YtgpbhmcmbigbdaaGreatDoorW.PrintWords Go.Proofs.YtgpbhmcmbigbdaaGreatDoorW.PrintLast Go.Proofs.YtgpbhmcmbigbdaaGreatDoorW.PrintMore Go.Proofs.YtgpbhmcmbigbdaaGreatDoor.PRefs
attribute [local go_sem] min2_mn min_two

set_option maxHeartbeats 4000000 in
set_option maxRecDepth 100000 in
theorem jointells_walk (A0 : Option Addr) (c0 : Nat) (sx : List Int) (B0 : Option Addr) (d0 : Nat) (rx : List (List Int)) (A1 : Option Addr) (c1 : Nat) (sy : List Int) (B1 : Option Addr) (d1 : Nat) (ry : List (List Int)) (most : Int) (w : World) (hr0 : RelRd w A0 c0 sx B0 d0 rx) (hr1 : RelRd w A1 c1 sy B1 d1 ry) (htab : Tab w) :
    Calls Tryz.prog 3 #[.agg #[.slice A0 sx.length c0, .slice B0 rx.length d0], .agg #[.slice A1 sy.length c1, .slice B1 ry.length d1], .int .i64 most] w fun e w' => e = .returned (.bool true) ∧ Below w.heap.size w w' := by
  have HT := Aside0.mk htab
  clear htab
  obtain ⟨W0, hW0⟩ : ∃ W0, ((w.alloc (.cells #[.slice A0 sx.length c0, .slice B0 rx.length d0] 25)).alloc (.cells #[.slice A1 sy.length c1, .slice B1 ry.length d1] 25)) = W0 := ⟨_, rfl⟩
  have hbe : Below w.heap.size w W0 := by rw [← hW0]; exact below_alloc (below_alloc (Below.refl _ _) _) _
  have HB1 := Aside0.mk hbe
  have hk0 : W0.heap[w.heap.size]? = some (.cells #[.slice A0 sx.length c0, .slice B0 rx.length d0] 25 (0, 0)) := by
    rw [← hW0]
    have h0 := heap_alloc_new w (.cells #[.slice A0 sx.length c0, .slice B0 rx.length d0] 25)
    try simp only [World.size_alloc] at h0
    exact ((Below.heap_alloc _ _ _ (by first | (simp; done) | (simp; omega))).trans h0)
  have Hpx1 := Aside0.mk (PtBx.mk hk0 (hr0.step hbe))
  have qpx0_1 := blk2_c0 hk0
  have qpx1_1 := blk2_c1 hk0
  have hk1 : W0.heap[w.heap.size + 1]? = some (.cells #[.slice A1 sy.length c1, .slice B1 ry.length d1] 25 (0, 0)) := by
    rw [← hW0]
    have h0 := heap_alloc_new (w.alloc (.cells #[.slice A0 sx.length c0, .slice B0 rx.length d0] 25)) (.cells #[.slice A1 sy.length c1, .slice B1 ry.length d1] 25)
    try simp only [World.size_alloc] at h0
    exact h0
  have Hpy1 := Aside0.mk (PtBx.mk hk1 (hr1.step hbe))
  have qpy0_1 := blk2_c0 hk1
  have qpy1_1 := blk2_c1 hk1
  clear hbe hk0 hr0 hk1 hr1
  have hSx := sm_small sx rx
  have HFx := Aside0.mk (Small3_f sx rx 4000 (Nat.le_refl _))
  generalize smallRows3 (smallS3 sx).length rx = X at *
  generalize smallS3 sx = SA at *
  have hSy := sm_small sy ry
  have HFy := Aside0.mk (Small3_f sy ry 4000 (Nat.le_refl _))
  generalize smallRows3 (smallS3 sy).length ry = Y at *
  generalize smallS3 sy = SB at *
  have ht := hSx.rt.semi SB Y
  have hj := rt_smjoin hSx hSy
  have hjl := sm_join hSx hSy
  obtain ⟨S, hSe⟩ : ∃ S, semiRows SA X SB Y = S := ⟨_, rfl⟩
  obtain ⟨U, hU⟩ : ∃ U, uni SA SB = U := ⟨_, rfl⟩
  obtain ⟨J, hJ⟩ : ∃ J, joinRows SA X SB Y = J := ⟨_, rfl⟩
  obtain ⟨b, hb⟩ : ∃ b, decide (projRel SA X SB = projRel SB Y SA) = b := ⟨_, rfl⟩
  have hul := uni_len SA SB
  have hlS : S.length ≤ 12 := by rw [← hSe]; exact Nat.le_trans (List.length_filter_le _ _) hSx.l
  rw [hSe] at ht
  rw [hU, hJ] at hj
  rw [hU] at hul
  rw [hJ] at hjl
  have hsA := hSx.s
  have hsB := hSy.s
  have hlX := hSx.l
  have hlY := hSy.l
  have hbb : (b != b) = false := by cases b <;> rfl
  have HE := Aside0.mk (And.intro hSe (And.intro hU (And.intro hJ hb)))
  have HRT := Aside0.mk (And.intro hSx.rt (And.intro hSy.rt (And.intro ht hj)))
  have HSM := Aside0.mk (And.intro hSx hSy)
  have HJR := Aside0.mk (decide_eq_true hj.r)
  have HXS := Aside0.mk ht.r.2.1
  have HXJ := Aside0.mk hj.r.2.1
  have HZJ := Aside0.mk (Sz.mk (sc := U) (L := J) (by omega) (by omega) (fun x hx => by rw [hj.r.2.1 x hx]; omega))
  clear hSe hU hJ hb ht hj hSx hSy
  by_cases hmost : (J.length : Int) ≤ most
  · go_enter Tryz.func3, Tryz.ntmps3
    go_wp2_with (first
      | (have hgd := HB5; clear hgd; go_at_call 11; refine (docjoin_is Ha5.out.rd Hb5.out.rd HRT.out.1.r HRT.out.2.1.r (by omega) (by omega) (by omega) hlY HE.out.2.1 HE.out.2.2.1).mono ?_; rintro e w6 ⟨Av, cv, Dv, dv, rfl, hr6, hb6⟩; have hx6 := below_box hb6 (.cells #[.slice Av U.length cv, .slice Dv J.length dv] 27); have HB6 := Aside0.mk (below_then HB5.out HB5.out.size hx6); have Ha6 := Aside0.mk (Ha5.out.step hx6); have Hb6 := Aside0.mk (Hb5.out.step hx6); have Hr6 := Aside0.mk (Hr5.out.step hx6); have Hv6 := Aside0.mk (RelBx.new hr6); have qa0_6 := blk2_c0 Ha6.out.blk; have qa1_6 := blk2_c1 Ha6.out.blk; have qb0_6 := blk2_c0 Hb6.out.blk; have qb1_6 := blk2_c1 Hb6.out.blk; have qr0_6 := blk2_c0 Hr6.out.blk; have qr1_6 := blk2_c1 Hr6.out.blk; have qv0_6 := blk2_c0 Hv6.out.blk; have qv1_6 := blk2_c1 Hv6.out.blk; clear hb6 hr6 hx6 Ha5 Hb5 Hr5 qa0_5 qa1_5 qb0_5 qb1_5 qr0_5 qr1_5)
      | (have hgd := HB4; clear hgd; go_at_call 10; refine (join_ok Ha4.out.rd HRT.out.1 Hb4.out.rd HRT.out.2.1 (HT.out.step HB4.out) HE.out.2.1 HE.out.2.2.1 hmost).mono ?_; rintro e w5 ⟨Ar, cr, Dr, dr, rfl, hr5, hb5⟩; have hx5 := below_box hb5 (.cells #[.slice Ar U.length cr, .slice Dr J.length dr] 27); have HB5 := Aside0.mk (below_then HB4.out HB4.out.size hx5); have Ha5 := Aside0.mk (Ha4.out.step hx5); have Hb5 := Aside0.mk (Hb4.out.step hx5); have Hr5 := Aside0.mk (RelBx.new hr5); have qa0_5 := blk2_c0 Ha5.out.blk; have qa1_5 := blk2_c1 Ha5.out.blk; have qb0_5 := blk2_c0 Hb5.out.blk; have qb1_5 := blk2_c1 Hb5.out.blk; have qr0_5 := blk2_c0 Hr5.out.blk; have qr1_5 := blk2_c1 Hr5.out.blk; clear hb5 hr5 hx5 Ha4 Hb4 qa0_4 qa1_4 qb0_4 qb1_4)
      | (have hgd := HB3; clear hgd; go_at_call 9; refine (small3_is _ _ sy _ _ ry _ Hpy3.out.rd.row Hpy3.out.rd.cap Hpy3.out.rd.rows Hpy3.out.rd.cap2 HFy.out).mono ?_; rintro e w4 ⟨Ab, cb, Db, db, rfl, hr4, hb4⟩; have hx4 := below_box hb4 (.cells #[.slice Ab SB.length cb, .slice Db Y.length db] 27); have HB4 := Aside0.mk (below_then HB3.out HB3.out.size hx4); have Ha4 := Aside0.mk (Ha3.out.step hx4); have Hb4 := Aside0.mk (RelBx.new hr4); have qa0_4 := blk2_c0 Ha4.out.blk; have qa1_4 := blk2_c1 Ha4.out.blk; have qb0_4 := blk2_c0 Hb4.out.blk; have qb1_4 := blk2_c1 Hb4.out.blk; clear hb4 hr4 hx4 Hpy3 Ha3 qpy0_3 qpy1_3 qa0_3 qa1_3)
      | (have hgd := HB2; clear hgd; go_at_call 9; refine (small3_is _ _ sx _ _ rx _ Hpx2.out.rd.row Hpx2.out.rd.cap Hpx2.out.rd.rows Hpx2.out.rd.cap2 HFx.out).mono ?_; rintro e w3 ⟨Aa, ca, Da, da, rfl, hr3, hb3⟩; have hx3 := below_box hb3 (.cells #[.slice Aa SA.length ca, .slice Da X.length da] 27); have HB3 := Aside0.mk (below_then HB2.out HB2.out.size hx3); have Hpy3 := Aside0.mk (Hpy2.out.step hx3); have Ha3 := Aside0.mk (RelBx.new hr3); have qpy0_3 := blk2_c0 Hpy3.out.blk; have qpy1_3 := blk2_c1 Hpy3.out.blk; have qa0_3 := blk2_c0 Ha3.out.blk; have qa1_3 := blk2_c1 Ha3.out.blk; clear hb3 hr3 hx3 Hpx2 Hpy2 qpx0_2 qpx1_2 qpy0_2 qpy1_2)
      | (have hgd := HB1; clear hgd; go_at_call 8; refine (shown3_any _ (HT.out.step HB1.out)).mono ?_; rintro e w2 ⟨rfl, hb2⟩; have HB2 := Aside0.mk (below_then HB1.out HB1.out.size hb2); have Hpx2 := Aside0.mk (Hpx1.out.step hb2); have Hpy2 := Aside0.mk (Hpy1.out.step hb2); have qpx0_2 := blk2_c0 Hpx2.out.blk; have qpx1_2 := blk2_c1 Hpx2.out.blk; have qpy0_2 := blk2_c0 Hpy2.out.blk; have qpy1_2 := blk2_c1 Hpy2.out.blk; clear hb2 Hpx1 Hpy1 qpx0_1 qpx1_1 qpy0_1 qpy1_1))
    clear qa0_6 qa1_6 qb0_6 qb1_6 qr0_6 qr1_6 qv0_6 qv1_6
    obtain ⟨I, hI⟩ : ∃ I : World → Prop, ∀ W, I W ↔ (Below w.heap.size w W ∧ RelBx W w3.heap.size Aa ca SA Da da X ∧ RelBx W w4.heap.size Ab cb SB Db db Y ∧ RelBx W w5.heap.size Ar cr U Dr dr J ∧ RelBx W w6.heap.size Av cv U Dv dv J) := ⟨_, fun _ => Iff.rfl⟩
    have hIst : ∀ {W W1 : World}, I W → Below W.heap.size W W1 → I W1 := fun h hb => by
      obtain ⟨h0, h1, h2, h3, h4⟩ := (hI _).1 h
      exact (hI _).2 ⟨below_then h0 h0.size hb, h1.step hb, h2.step hb, h3.step hb, h4.step hb⟩
    have hIal : ∀ {W : World}, I W → (W.cell? ⟨w3.heap.size, 0, none⟩ = some (.slice Aa SA.length ca) ∧ W.cell? ⟨w3.heap.size, 1, none⟩ = some (.slice Da X.length da) ∧ W.cell? ⟨w4.heap.size, 0, none⟩ = some (.slice Ab SB.length cb) ∧ W.cell? ⟨w4.heap.size, 1, none⟩ = some (.slice Db Y.length db) ∧ W.cell? ⟨w5.heap.size, 0, none⟩ = some (.slice Ar U.length cr) ∧ W.cell? ⟨w5.heap.size, 1, none⟩ = some (.slice Dr J.length dr) ∧ W.cell? ⟨w6.heap.size, 0, none⟩ = some (.slice Av U.length cv) ∧ W.cell? ⟨w6.heap.size, 1, none⟩ = some (.slice Dv J.length dv) ∧ I W) := fun h => by
      obtain ⟨h0, h1, h2, h3, h4⟩ := (hI _).1 h
      exact ⟨blk2_c0 h1.blk, blk2_c1 h1.blk, blk2_c0 h2.blk, blk2_c1 h2.blk, blk2_c0 h3.blk, blk2_c1 h3.blk, blk2_c0 h4.blk, blk2_c1 h4.blk, h⟩
    have hIof : ∀ {W : World}, (W.cell? ⟨w3.heap.size, 0, none⟩ = some (.slice Aa SA.length ca) ∧ W.cell? ⟨w3.heap.size, 1, none⟩ = some (.slice Da X.length da) ∧ W.cell? ⟨w4.heap.size, 0, none⟩ = some (.slice Ab SB.length cb) ∧ W.cell? ⟨w4.heap.size, 1, none⟩ = some (.slice Db Y.length db) ∧ W.cell? ⟨w5.heap.size, 0, none⟩ = some (.slice Ar U.length cr) ∧ W.cell? ⟨w5.heap.size, 1, none⟩ = some (.slice Dr J.length dr) ∧ W.cell? ⟨w6.heap.size, 0, none⟩ = some (.slice Av U.length cv) ∧ W.cell? ⟨w6.heap.size, 1, none⟩ = some (.slice Dv J.length dv) ∧ I W) → I W := fun h => h.2.2.2.2.2.2.2.2
    have hstep : ∀ {W W1 : World}, (W.cell? ⟨w3.heap.size, 0, none⟩ = some (.slice Aa SA.length ca) ∧ W.cell? ⟨w3.heap.size, 1, none⟩ = some (.slice Da X.length da) ∧ W.cell? ⟨w4.heap.size, 0, none⟩ = some (.slice Ab SB.length cb) ∧ W.cell? ⟨w4.heap.size, 1, none⟩ = some (.slice Db Y.length db) ∧ W.cell? ⟨w5.heap.size, 0, none⟩ = some (.slice Ar U.length cr) ∧ W.cell? ⟨w5.heap.size, 1, none⟩ = some (.slice Dr J.length dr) ∧ W.cell? ⟨w6.heap.size, 0, none⟩ = some (.slice Av U.length cv) ∧ W.cell? ⟨w6.heap.size, 1, none⟩ = some (.slice Dv J.length dv) ∧ I W) → Below W.heap.size W W1 → (W1.cell? ⟨w3.heap.size, 0, none⟩ = some (.slice Aa SA.length ca) ∧ W1.cell? ⟨w3.heap.size, 1, none⟩ = some (.slice Da X.length da) ∧ W1.cell? ⟨w4.heap.size, 0, none⟩ = some (.slice Ab SB.length cb) ∧ W1.cell? ⟨w4.heap.size, 1, none⟩ = some (.slice Db Y.length db) ∧ W1.cell? ⟨w5.heap.size, 0, none⟩ = some (.slice Ar U.length cr) ∧ W1.cell? ⟨w5.heap.size, 1, none⟩ = some (.slice Dr J.length dr) ∧ W1.cell? ⟨w6.heap.size, 0, none⟩ = some (.slice Av U.length cv) ∧ W1.cell? ⟨w6.heap.size, 1, none⟩ = some (.slice Dv J.length dv) ∧ I W1) := fun h hb => hIal (hIst (hIof h) hb)
    have gB : ∀ {W : World}, (W.cell? ⟨w3.heap.size, 0, none⟩ = some (.slice Aa SA.length ca) ∧ W.cell? ⟨w3.heap.size, 1, none⟩ = some (.slice Da X.length da) ∧ W.cell? ⟨w4.heap.size, 0, none⟩ = some (.slice Ab SB.length cb) ∧ W.cell? ⟨w4.heap.size, 1, none⟩ = some (.slice Db Y.length db) ∧ W.cell? ⟨w5.heap.size, 0, none⟩ = some (.slice Ar U.length cr) ∧ W.cell? ⟨w5.heap.size, 1, none⟩ = some (.slice Dr J.length dr) ∧ W.cell? ⟨w6.heap.size, 0, none⟩ = some (.slice Av U.length cv) ∧ W.cell? ⟨w6.heap.size, 1, none⟩ = some (.slice Dv J.length dv) ∧ I W) → Below w.heap.size w W := fun h => ((hI _).1 (hIof h)).1
    have ga : ∀ {W : World}, (W.cell? ⟨w3.heap.size, 0, none⟩ = some (.slice Aa SA.length ca) ∧ W.cell? ⟨w3.heap.size, 1, none⟩ = some (.slice Da X.length da) ∧ W.cell? ⟨w4.heap.size, 0, none⟩ = some (.slice Ab SB.length cb) ∧ W.cell? ⟨w4.heap.size, 1, none⟩ = some (.slice Db Y.length db) ∧ W.cell? ⟨w5.heap.size, 0, none⟩ = some (.slice Ar U.length cr) ∧ W.cell? ⟨w5.heap.size, 1, none⟩ = some (.slice Dr J.length dr) ∧ W.cell? ⟨w6.heap.size, 0, none⟩ = some (.slice Av U.length cv) ∧ W.cell? ⟨w6.heap.size, 1, none⟩ = some (.slice Dv J.length dv) ∧ I W) → RelBx W w3.heap.size Aa ca SA Da da X := fun h => ((hI _).1 (hIof h)).2.1
    have gb : ∀ {W : World}, (W.cell? ⟨w3.heap.size, 0, none⟩ = some (.slice Aa SA.length ca) ∧ W.cell? ⟨w3.heap.size, 1, none⟩ = some (.slice Da X.length da) ∧ W.cell? ⟨w4.heap.size, 0, none⟩ = some (.slice Ab SB.length cb) ∧ W.cell? ⟨w4.heap.size, 1, none⟩ = some (.slice Db Y.length db) ∧ W.cell? ⟨w5.heap.size, 0, none⟩ = some (.slice Ar U.length cr) ∧ W.cell? ⟨w5.heap.size, 1, none⟩ = some (.slice Dr J.length dr) ∧ W.cell? ⟨w6.heap.size, 0, none⟩ = some (.slice Av U.length cv) ∧ W.cell? ⟨w6.heap.size, 1, none⟩ = some (.slice Dv J.length dv) ∧ I W) → RelBx W w4.heap.size Ab cb SB Db db Y := fun h => ((hI _).1 (hIof h)).2.2.1
    have gr : ∀ {W : World}, (W.cell? ⟨w3.heap.size, 0, none⟩ = some (.slice Aa SA.length ca) ∧ W.cell? ⟨w3.heap.size, 1, none⟩ = some (.slice Da X.length da) ∧ W.cell? ⟨w4.heap.size, 0, none⟩ = some (.slice Ab SB.length cb) ∧ W.cell? ⟨w4.heap.size, 1, none⟩ = some (.slice Db Y.length db) ∧ W.cell? ⟨w5.heap.size, 0, none⟩ = some (.slice Ar U.length cr) ∧ W.cell? ⟨w5.heap.size, 1, none⟩ = some (.slice Dr J.length dr) ∧ W.cell? ⟨w6.heap.size, 0, none⟩ = some (.slice Av U.length cv) ∧ W.cell? ⟨w6.heap.size, 1, none⟩ = some (.slice Dv J.length dv) ∧ I W) → RelBx W w5.heap.size Ar cr U Dr dr J := fun h => ((hI _).1 (hIof h)).2.2.2.1
    have gv : ∀ {W : World}, (W.cell? ⟨w3.heap.size, 0, none⟩ = some (.slice Aa SA.length ca) ∧ W.cell? ⟨w3.heap.size, 1, none⟩ = some (.slice Da X.length da) ∧ W.cell? ⟨w4.heap.size, 0, none⟩ = some (.slice Ab SB.length cb) ∧ W.cell? ⟨w4.heap.size, 1, none⟩ = some (.slice Db Y.length db) ∧ W.cell? ⟨w5.heap.size, 0, none⟩ = some (.slice Ar U.length cr) ∧ W.cell? ⟨w5.heap.size, 1, none⟩ = some (.slice Dr J.length dr) ∧ W.cell? ⟨w6.heap.size, 0, none⟩ = some (.slice Av U.length cv) ∧ W.cell? ⟨w6.heap.size, 1, none⟩ = some (.slice Dv J.length dv) ∧ I W) → RelBx W w6.heap.size Av cv U Dv dv J := fun h => ((hI _).1 (hIof h)).2.2.2.2
    replace hI := Aside0.mk @hI
    replace hIst := Aside0.mk @hIst
    replace hIal := Aside0.mk @hIal
    replace hIof := Aside0.mk @hIof
    replace hstep := Aside0.mk @hstep
    replace gB := Aside0.mk @gB
    replace ga := Aside0.mk @ga
    replace gb := Aside0.mk @gb
    replace gr := Aside0.mk @gr
    replace gv := Aside0.mk @gv
    have HS0A := Aside0.mk (hIal.out ((hI.out _).2 ⟨HB6.out, Ha6.out, Hb6.out, Hr6.out, Hv6.out⟩))
    have HSDA := Aside0.mk (hstep.out HS0A.out (below_drew (Below.refl _ _)))
    go_region_held3 (fun W => W.cell? ⟨w3.heap.size, 0, none⟩ = some (.slice Aa SA.length ca) ∧ W.cell? ⟨w3.heap.size, 1, none⟩ = some (.slice Da X.length da) ∧ W.cell? ⟨w4.heap.size, 0, none⟩ = some (.slice Ab SB.length cb) ∧ W.cell? ⟨w4.heap.size, 1, none⟩ = some (.slice Db Y.length db) ∧ W.cell? ⟨w5.heap.size, 0, none⟩ = some (.slice Ar U.length cr) ∧ W.cell? ⟨w5.heap.size, 1, none⟩ = some (.slice Dr J.length dr) ∧ W.cell? ⟨w6.heap.size, 0, none⟩ = some (.slice Av U.length cv) ∧ W.cell? ⟨w6.heap.size, 1, none⟩ = some (.slice Dv J.length dv) ∧ I W)
      (first | with_reducible exact HS5A.out | with_reducible exact HS4A.out | with_reducible exact HS3A.out | with_reducible exact HS2A.out | with_reducible exact HS1A.out | with_reducible exact HSDA.out | with_reducible exact HS0A.out | with_reducible exact HSB.out | with_reducible exact hstep.out HS5A.out (below_alloc (Below.refl _ _) _) | with_reducible exact hstep.out HS4A.out (below_alloc (Below.refl _ _) _) | with_reducible exact hstep.out HS3A.out (below_alloc (Below.refl _ _) _) | with_reducible exact hstep.out HS2A.out (below_alloc (Below.refl _ _) _) | with_reducible exact hstep.out HS1A.out (below_alloc (Below.refl _ _) _) | with_reducible exact hstep.out (by assumption) (below_alloc (Below.refl _ _) _) | with_reducible exact hstep.out (by assumption) (below_drew (Below.refl _ _)))
      (first
        | (have hgd := HS4A; clear hgd; go_at_call 16; refine (docagree_is (ga.out (by assumption)).rd (gb.out (by assumption)).rd HSM.out.1 HSM.out.2 b HE.out.2.2.2).mono ?_; rintro e v5 ⟨rfl, hb5⟩; have hS5 := hstep.out (by assumption) hb5; have HS5A := Aside0.mk hS5; clear hS5 hb5)
        | (have hgd := HS3A; clear hgd; go_at_call 15; refine (agree_rt (ga.out (by assumption)).rd HRT.out.1 (gb.out (by assumption)).rd HRT.out.2.1 b HE.out.2.2.2).mono ?_; rintro e v4 ⟨rfl, hb4⟩; have hS4 := hstep.out (by assumption) hb4; have HS4A := Aside0.mk hS4; clear hS4 hb4)
        | (have hgd := HS2A; clear hgd; go_at_call 12; refine (docsame_is Hs2.out Ht.out (by omega) (by omega) HXS.out).mono ?_; rintro e v3 ⟨rfl, hb3⟩; have hS3 := hstep.out (by assumption) hb3; have HS3A := Aside0.mk hS3; clear hS3 hb3)
        | (have hgd := HS1A; clear hgd; go_at_call 14; refine (docsemi_is (ga.out (by assumption)).rd (gb.out (by assumption)).rd HRT.out.1.r HRT.out.2.1.r (by omega) (by omega) (by omega) (by omega) HE.out.1).mono ?_; rintro e v2 ⟨At, ct, Dt, dt, rfl, hr2, hb2⟩; have Ht := Aside0.mk hr2; have hS2 := hstep.out (by assumption) hb2; have HS2A := Aside0.mk hS2; have Hs2 := Aside0.mk (Hs.out.step hb2); clear hS2 hb2 hr2)
        | (go_at_call 13; refine (semi_rt (ga.out (by assumption)).rd HRT.out.1 (gb.out (by assumption)).rd HRT.out.2.1 (HT.out.step (gB.out (by assumption))) HE.out.1).mono ?_; rintro e v1 ⟨As, cs, Ds, ds, rfl, hr1, hb1⟩; have Hs := Aside0.mk hr1; have hS1 := hstep.out (by assumption) hb1; have HS1A := Aside0.mk hS1; clear hS1 hb1 hr1))
    all_goals
      have qr0 := HS5A.out.2.2.2.2.1
      have qr1 := HS5A.out.2.2.2.2.2.1
      have qv0 := HS5A.out.2.2.2.2.2.2.1
      have qv1 := HS5A.out.2.2.2.2.2.2.2.1
      have hgt : ¬ most < (J.length : Int) := by omega
      have hgr := gr.out HS5A.out
      have hgv := gv.out HS5A.out
      have HGR := Aside0.mk (And.intro hgr hgv)
      clear hgr hgv
      go_wp2_with (first
        | (have hgd := HB9; clear hgd; go_at_call 17; refine (rightp_is (HGR.out.1.rd.step HB9.out) HZJ.out true HJR.out).mono ?_; rintro e w10 ⟨rfl, hb10⟩; have HB10 := Aside0.mk (below_then HB9.out HB9.out.size hb10); clear hb10)
        | (go_at_call 12; refine (docsame_is HGR.out.1.rd HGR.out.2.rd (by omega) (by omega) HXJ.out).mono ?_; rintro e w9 ⟨rfl, hb9⟩; have HB9 := Aside0.mk hb9; have qr0' := blk2_c0 (HGR.out.1.step hb9).blk; have qr1' := blk2_c1 (HGR.out.1.step hb9).blk; clear hb9))
      go_ret
      exact ⟨rfl, (gB.out HS5A.out).trans (HB10.out.mono (gB.out HS5A.out).size)⟩
  · have HMO := Aside0.mk (show ¬ ((joinRows SA X SB Y).length : Int) ≤ most from by rw [HE.out.2.2.1]; exact hmost)
    go_enter Tryz.func3, Tryz.ntmps3
    go_wp2_with (first
      | (have hgd := HB5; clear hgd; go_at_call 11; refine (docjoin_is Ha5.out.rd Hb5.out.rd HRT.out.1.r HRT.out.2.1.r (by omega) (by omega) (by omega) hlY HE.out.2.1 HE.out.2.2.1).mono ?_; rintro e w6 ⟨Av, cv, Dv, dv, rfl, hr6, hb6⟩; have hx6 := below_box hb6 (.cells #[.slice Av U.length cv, .slice Dv J.length dv] 27); have HB6 := Aside0.mk (below_then HB5.out HB5.out.size hx6); have Ha6 := Aside0.mk (Ha5.out.step hx6); have Hb6 := Aside0.mk (Hb5.out.step hx6); have Hr6 := Aside0.mk (Hr5.out.step hx6); have Hv6 := Aside0.mk (RelBx.new hr6); have qa0_6 := blk2_c0 Ha6.out.blk; have qa1_6 := blk2_c1 Ha6.out.blk; have qb0_6 := blk2_c0 Hb6.out.blk; have qb1_6 := blk2_c1 Hb6.out.blk; have qr0_6 : _ = some (Value.slice Ar 0 cr) := blk2_c0 Hr6.out.blk; have qr1_6 : _ = some (Value.slice Dr 0 dr) := blk2_c1 Hr6.out.blk; have qv0_6 := blk2_c0 Hv6.out.blk; have qv1_6 := blk2_c1 Hv6.out.blk; clear hb6 hr6 hx6 Ha5 Hb5 Hr5 qa0_5 qa1_5 qb0_5 qb1_5 qr0_5 qr1_5)
      | (have hgd := HB4; clear hgd; go_at_call 10; refine (join_no Ha4.out.rd HRT.out.1 Hb4.out.rd HRT.out.2.1 (HT.out.step HB4.out) (by have h := HMO.out; omega)).mono ?_; rintro e w5 ⟨Ar, cr, Dr, dr, rfl, hr5, hb5⟩; have hx5 := below_box hb5 (.cells #[.slice Ar 0 cr, .slice Dr 0 dr] 27); have HB5 := Aside0.mk (below_then HB4.out HB4.out.size hx5); have Ha5 := Aside0.mk (Ha4.out.step hx5); have Hb5 := Aside0.mk (Hb4.out.step hx5); have Hr5 := Aside0.mk (RelBx.new hr5); have qa0_5 := blk2_c0 Ha5.out.blk; have qa1_5 := blk2_c1 Ha5.out.blk; have qb0_5 := blk2_c0 Hb5.out.blk; have qb1_5 := blk2_c1 Hb5.out.blk; have qr0_5 : _ = some (Value.slice Ar 0 cr) := blk2_c0 Hr5.out.blk; have qr1_5 : _ = some (Value.slice Dr 0 dr) := blk2_c1 Hr5.out.blk; clear hb5 hr5 hx5 Ha4 Hb4 qa0_4 qa1_4 qb0_4 qb1_4)
      | (have hgd := HB3; clear hgd; go_at_call 9; refine (small3_is _ _ sy _ _ ry _ Hpy3.out.rd.row Hpy3.out.rd.cap Hpy3.out.rd.rows Hpy3.out.rd.cap2 HFy.out).mono ?_; rintro e w4 ⟨Ab, cb, Db, db, rfl, hr4, hb4⟩; have hx4 := below_box hb4 (.cells #[.slice Ab SB.length cb, .slice Db Y.length db] 27); have HB4 := Aside0.mk (below_then HB3.out HB3.out.size hx4); have Ha4 := Aside0.mk (Ha3.out.step hx4); have Hb4 := Aside0.mk (RelBx.new hr4); have qa0_4 := blk2_c0 Ha4.out.blk; have qa1_4 := blk2_c1 Ha4.out.blk; have qb0_4 := blk2_c0 Hb4.out.blk; have qb1_4 := blk2_c1 Hb4.out.blk; clear hb4 hr4 hx4 Hpy3 Ha3 qpy0_3 qpy1_3 qa0_3 qa1_3)
      | (have hgd := HB2; clear hgd; go_at_call 9; refine (small3_is _ _ sx _ _ rx _ Hpx2.out.rd.row Hpx2.out.rd.cap Hpx2.out.rd.rows Hpx2.out.rd.cap2 HFx.out).mono ?_; rintro e w3 ⟨Aa, ca, Da, da, rfl, hr3, hb3⟩; have hx3 := below_box hb3 (.cells #[.slice Aa SA.length ca, .slice Da X.length da] 27); have HB3 := Aside0.mk (below_then HB2.out HB2.out.size hx3); have Hpy3 := Aside0.mk (Hpy2.out.step hx3); have Ha3 := Aside0.mk (RelBx.new hr3); have qpy0_3 := blk2_c0 Hpy3.out.blk; have qpy1_3 := blk2_c1 Hpy3.out.blk; have qa0_3 := blk2_c0 Ha3.out.blk; have qa1_3 := blk2_c1 Ha3.out.blk; clear hb3 hr3 hx3 Hpx2 Hpy2 qpx0_2 qpx1_2 qpy0_2 qpy1_2)
      | (have hgd := HB1; clear hgd; go_at_call 8; refine (shown3_any _ (HT.out.step HB1.out)).mono ?_; rintro e w2 ⟨rfl, hb2⟩; have HB2 := Aside0.mk (below_then HB1.out HB1.out.size hb2); have Hpx2 := Aside0.mk (Hpx1.out.step hb2); have Hpy2 := Aside0.mk (Hpy1.out.step hb2); have qpx0_2 := blk2_c0 Hpx2.out.blk; have qpx1_2 := blk2_c1 Hpx2.out.blk; have qpy0_2 := blk2_c0 Hpy2.out.blk; have qpy1_2 := blk2_c1 Hpy2.out.blk; clear hb2 Hpx1 Hpy1 qpx0_1 qpx1_1 qpy0_1 qpy1_1))
    clear qa0_6 qa1_6 qb0_6 qb1_6 qr0_6 qr1_6 qv0_6 qv1_6
    obtain ⟨I, hI⟩ : ∃ I : World → Prop, ∀ W, I W ↔ (Below w.heap.size w W ∧ RelBx W w3.heap.size Aa ca SA Da da X ∧ RelBx W w4.heap.size Ab cb SB Db db Y ∧ RelBx W w5.heap.size Ar cr ([] : List Int) Dr dr ([] : List (List Int)) ∧ RelBx W w6.heap.size Av cv U Dv dv J) := ⟨_, fun _ => Iff.rfl⟩
    have hIst : ∀ {W W1 : World}, I W → Below W.heap.size W W1 → I W1 := fun h hb => by
      obtain ⟨h0, h1, h2, h3, h4⟩ := (hI _).1 h
      exact (hI _).2 ⟨below_then h0 h0.size hb, h1.step hb, h2.step hb, h3.step hb, h4.step hb⟩
    have hIal : ∀ {W : World}, I W → (W.cell? ⟨w3.heap.size, 0, none⟩ = some (.slice Aa SA.length ca) ∧ W.cell? ⟨w3.heap.size, 1, none⟩ = some (.slice Da X.length da) ∧ W.cell? ⟨w4.heap.size, 0, none⟩ = some (.slice Ab SB.length cb) ∧ W.cell? ⟨w4.heap.size, 1, none⟩ = some (.slice Db Y.length db) ∧ W.cell? ⟨w5.heap.size, 0, none⟩ = some (.slice Ar 0 cr) ∧ W.cell? ⟨w5.heap.size, 1, none⟩ = some (.slice Dr 0 dr) ∧ W.cell? ⟨w6.heap.size, 0, none⟩ = some (.slice Av U.length cv) ∧ W.cell? ⟨w6.heap.size, 1, none⟩ = some (.slice Dv J.length dv) ∧ I W) := fun h => by
      obtain ⟨h0, h1, h2, h3, h4⟩ := (hI _).1 h
      exact ⟨blk2_c0 h1.blk, blk2_c1 h1.blk, blk2_c0 h2.blk, blk2_c1 h2.blk, blk2_c0 h3.blk, blk2_c1 h3.blk, blk2_c0 h4.blk, blk2_c1 h4.blk, h⟩
    have hIof : ∀ {W : World}, (W.cell? ⟨w3.heap.size, 0, none⟩ = some (.slice Aa SA.length ca) ∧ W.cell? ⟨w3.heap.size, 1, none⟩ = some (.slice Da X.length da) ∧ W.cell? ⟨w4.heap.size, 0, none⟩ = some (.slice Ab SB.length cb) ∧ W.cell? ⟨w4.heap.size, 1, none⟩ = some (.slice Db Y.length db) ∧ W.cell? ⟨w5.heap.size, 0, none⟩ = some (.slice Ar 0 cr) ∧ W.cell? ⟨w5.heap.size, 1, none⟩ = some (.slice Dr 0 dr) ∧ W.cell? ⟨w6.heap.size, 0, none⟩ = some (.slice Av U.length cv) ∧ W.cell? ⟨w6.heap.size, 1, none⟩ = some (.slice Dv J.length dv) ∧ I W) → I W := fun h => h.2.2.2.2.2.2.2.2
    have hstep : ∀ {W W1 : World}, (W.cell? ⟨w3.heap.size, 0, none⟩ = some (.slice Aa SA.length ca) ∧ W.cell? ⟨w3.heap.size, 1, none⟩ = some (.slice Da X.length da) ∧ W.cell? ⟨w4.heap.size, 0, none⟩ = some (.slice Ab SB.length cb) ∧ W.cell? ⟨w4.heap.size, 1, none⟩ = some (.slice Db Y.length db) ∧ W.cell? ⟨w5.heap.size, 0, none⟩ = some (.slice Ar 0 cr) ∧ W.cell? ⟨w5.heap.size, 1, none⟩ = some (.slice Dr 0 dr) ∧ W.cell? ⟨w6.heap.size, 0, none⟩ = some (.slice Av U.length cv) ∧ W.cell? ⟨w6.heap.size, 1, none⟩ = some (.slice Dv J.length dv) ∧ I W) → Below W.heap.size W W1 → (W1.cell? ⟨w3.heap.size, 0, none⟩ = some (.slice Aa SA.length ca) ∧ W1.cell? ⟨w3.heap.size, 1, none⟩ = some (.slice Da X.length da) ∧ W1.cell? ⟨w4.heap.size, 0, none⟩ = some (.slice Ab SB.length cb) ∧ W1.cell? ⟨w4.heap.size, 1, none⟩ = some (.slice Db Y.length db) ∧ W1.cell? ⟨w5.heap.size, 0, none⟩ = some (.slice Ar 0 cr) ∧ W1.cell? ⟨w5.heap.size, 1, none⟩ = some (.slice Dr 0 dr) ∧ W1.cell? ⟨w6.heap.size, 0, none⟩ = some (.slice Av U.length cv) ∧ W1.cell? ⟨w6.heap.size, 1, none⟩ = some (.slice Dv J.length dv) ∧ I W1) := fun h hb => hIal (hIst (hIof h) hb)
    have gB : ∀ {W : World}, (W.cell? ⟨w3.heap.size, 0, none⟩ = some (.slice Aa SA.length ca) ∧ W.cell? ⟨w3.heap.size, 1, none⟩ = some (.slice Da X.length da) ∧ W.cell? ⟨w4.heap.size, 0, none⟩ = some (.slice Ab SB.length cb) ∧ W.cell? ⟨w4.heap.size, 1, none⟩ = some (.slice Db Y.length db) ∧ W.cell? ⟨w5.heap.size, 0, none⟩ = some (.slice Ar 0 cr) ∧ W.cell? ⟨w5.heap.size, 1, none⟩ = some (.slice Dr 0 dr) ∧ W.cell? ⟨w6.heap.size, 0, none⟩ = some (.slice Av U.length cv) ∧ W.cell? ⟨w6.heap.size, 1, none⟩ = some (.slice Dv J.length dv) ∧ I W) → Below w.heap.size w W := fun h => ((hI _).1 (hIof h)).1
    have ga : ∀ {W : World}, (W.cell? ⟨w3.heap.size, 0, none⟩ = some (.slice Aa SA.length ca) ∧ W.cell? ⟨w3.heap.size, 1, none⟩ = some (.slice Da X.length da) ∧ W.cell? ⟨w4.heap.size, 0, none⟩ = some (.slice Ab SB.length cb) ∧ W.cell? ⟨w4.heap.size, 1, none⟩ = some (.slice Db Y.length db) ∧ W.cell? ⟨w5.heap.size, 0, none⟩ = some (.slice Ar 0 cr) ∧ W.cell? ⟨w5.heap.size, 1, none⟩ = some (.slice Dr 0 dr) ∧ W.cell? ⟨w6.heap.size, 0, none⟩ = some (.slice Av U.length cv) ∧ W.cell? ⟨w6.heap.size, 1, none⟩ = some (.slice Dv J.length dv) ∧ I W) → RelBx W w3.heap.size Aa ca SA Da da X := fun h => ((hI _).1 (hIof h)).2.1
    have gb : ∀ {W : World}, (W.cell? ⟨w3.heap.size, 0, none⟩ = some (.slice Aa SA.length ca) ∧ W.cell? ⟨w3.heap.size, 1, none⟩ = some (.slice Da X.length da) ∧ W.cell? ⟨w4.heap.size, 0, none⟩ = some (.slice Ab SB.length cb) ∧ W.cell? ⟨w4.heap.size, 1, none⟩ = some (.slice Db Y.length db) ∧ W.cell? ⟨w5.heap.size, 0, none⟩ = some (.slice Ar 0 cr) ∧ W.cell? ⟨w5.heap.size, 1, none⟩ = some (.slice Dr 0 dr) ∧ W.cell? ⟨w6.heap.size, 0, none⟩ = some (.slice Av U.length cv) ∧ W.cell? ⟨w6.heap.size, 1, none⟩ = some (.slice Dv J.length dv) ∧ I W) → RelBx W w4.heap.size Ab cb SB Db db Y := fun h => ((hI _).1 (hIof h)).2.2.1
    have gr : ∀ {W : World}, (W.cell? ⟨w3.heap.size, 0, none⟩ = some (.slice Aa SA.length ca) ∧ W.cell? ⟨w3.heap.size, 1, none⟩ = some (.slice Da X.length da) ∧ W.cell? ⟨w4.heap.size, 0, none⟩ = some (.slice Ab SB.length cb) ∧ W.cell? ⟨w4.heap.size, 1, none⟩ = some (.slice Db Y.length db) ∧ W.cell? ⟨w5.heap.size, 0, none⟩ = some (.slice Ar 0 cr) ∧ W.cell? ⟨w5.heap.size, 1, none⟩ = some (.slice Dr 0 dr) ∧ W.cell? ⟨w6.heap.size, 0, none⟩ = some (.slice Av U.length cv) ∧ W.cell? ⟨w6.heap.size, 1, none⟩ = some (.slice Dv J.length dv) ∧ I W) → RelBx W w5.heap.size Ar cr ([] : List Int) Dr dr ([] : List (List Int)) := fun h => ((hI _).1 (hIof h)).2.2.2.1
    have gv : ∀ {W : World}, (W.cell? ⟨w3.heap.size, 0, none⟩ = some (.slice Aa SA.length ca) ∧ W.cell? ⟨w3.heap.size, 1, none⟩ = some (.slice Da X.length da) ∧ W.cell? ⟨w4.heap.size, 0, none⟩ = some (.slice Ab SB.length cb) ∧ W.cell? ⟨w4.heap.size, 1, none⟩ = some (.slice Db Y.length db) ∧ W.cell? ⟨w5.heap.size, 0, none⟩ = some (.slice Ar 0 cr) ∧ W.cell? ⟨w5.heap.size, 1, none⟩ = some (.slice Dr 0 dr) ∧ W.cell? ⟨w6.heap.size, 0, none⟩ = some (.slice Av U.length cv) ∧ W.cell? ⟨w6.heap.size, 1, none⟩ = some (.slice Dv J.length dv) ∧ I W) → RelBx W w6.heap.size Av cv U Dv dv J := fun h => ((hI _).1 (hIof h)).2.2.2.2
    replace hI := Aside0.mk @hI
    replace hIst := Aside0.mk @hIst
    replace hIal := Aside0.mk @hIal
    replace hIof := Aside0.mk @hIof
    replace hstep := Aside0.mk @hstep
    replace gB := Aside0.mk @gB
    replace ga := Aside0.mk @ga
    replace gb := Aside0.mk @gb
    replace gr := Aside0.mk @gr
    replace gv := Aside0.mk @gv
    have HS0A := Aside0.mk (hIal.out ((hI.out _).2 ⟨HB6.out, Ha6.out, Hb6.out, Hr6.out, Hv6.out⟩))
    have HSDA := Aside0.mk (hstep.out HS0A.out (below_drew (Below.refl _ _)))
    go_region_held3 (fun W => W.cell? ⟨w3.heap.size, 0, none⟩ = some (.slice Aa SA.length ca) ∧ W.cell? ⟨w3.heap.size, 1, none⟩ = some (.slice Da X.length da) ∧ W.cell? ⟨w4.heap.size, 0, none⟩ = some (.slice Ab SB.length cb) ∧ W.cell? ⟨w4.heap.size, 1, none⟩ = some (.slice Db Y.length db) ∧ W.cell? ⟨w5.heap.size, 0, none⟩ = some (.slice Ar 0 cr) ∧ W.cell? ⟨w5.heap.size, 1, none⟩ = some (.slice Dr 0 dr) ∧ W.cell? ⟨w6.heap.size, 0, none⟩ = some (.slice Av U.length cv) ∧ W.cell? ⟨w6.heap.size, 1, none⟩ = some (.slice Dv J.length dv) ∧ I W)
      (first | with_reducible exact HS5A.out | with_reducible exact HS4A.out | with_reducible exact HS3A.out | with_reducible exact HS2A.out | with_reducible exact HS1A.out | with_reducible exact HSDA.out | with_reducible exact HS0A.out | with_reducible exact HSB.out | with_reducible exact hstep.out HS5A.out (below_alloc (Below.refl _ _) _) | with_reducible exact hstep.out HS4A.out (below_alloc (Below.refl _ _) _) | with_reducible exact hstep.out HS3A.out (below_alloc (Below.refl _ _) _) | with_reducible exact hstep.out HS2A.out (below_alloc (Below.refl _ _) _) | with_reducible exact hstep.out HS1A.out (below_alloc (Below.refl _ _) _) | with_reducible exact hstep.out (by assumption) (below_alloc (Below.refl _ _) _) | with_reducible exact hstep.out (by assumption) (below_drew (Below.refl _ _)))
      (first
        | (have hgd := HS4A; clear hgd; go_at_call 16; refine (docagree_is (ga.out (by assumption)).rd (gb.out (by assumption)).rd HSM.out.1 HSM.out.2 b HE.out.2.2.2).mono ?_; rintro e v5 ⟨rfl, hb5⟩; have hS5 := hstep.out (by assumption) hb5; have HS5A := Aside0.mk hS5; clear hS5 hb5)
        | (have hgd := HS3A; clear hgd; go_at_call 15; refine (agree_rt (ga.out (by assumption)).rd HRT.out.1 (gb.out (by assumption)).rd HRT.out.2.1 b HE.out.2.2.2).mono ?_; rintro e v4 ⟨rfl, hb4⟩; have hS4 := hstep.out (by assumption) hb4; have HS4A := Aside0.mk hS4; clear hS4 hb4)
        | (have hgd := HS2A; clear hgd; go_at_call 12; refine (docsame_is Hs2.out Ht.out (by omega) (by omega) HXS.out).mono ?_; rintro e v3 ⟨rfl, hb3⟩; have hS3 := hstep.out (by assumption) hb3; have HS3A := Aside0.mk hS3; clear hS3 hb3)
        | (have hgd := HS1A; clear hgd; go_at_call 14; refine (docsemi_is (ga.out (by assumption)).rd (gb.out (by assumption)).rd HRT.out.1.r HRT.out.2.1.r (by omega) (by omega) (by omega) (by omega) HE.out.1).mono ?_; rintro e v2 ⟨At, ct, Dt, dt, rfl, hr2, hb2⟩; have Ht := Aside0.mk hr2; have hS2 := hstep.out (by assumption) hb2; have HS2A := Aside0.mk hS2; have Hs2 := Aside0.mk (Hs.out.step hb2); clear hS2 hb2 hr2)
        | (go_at_call 13; refine (semi_rt (ga.out (by assumption)).rd HRT.out.1 (gb.out (by assumption)).rd HRT.out.2.1 (HT.out.step (gB.out (by assumption))) HE.out.1).mono ?_; rintro e v1 ⟨As, cs, Ds, ds, rfl, hr1, hb1⟩; have Hs := Aside0.mk hr1; have hS1 := hstep.out (by assumption) hb1; have HS1A := Aside0.mk hS1; clear hS1 hb1 hr1))
    all_goals
      have qr0 := HS5A.out.2.2.2.2.1
      have qr1 := HS5A.out.2.2.2.2.2.1
      have qv0 := HS5A.out.2.2.2.2.2.2.1
      have qv1 := HS5A.out.2.2.2.2.2.2.2.1
      have hgt : most < (J.length : Int) := by omega
      go_wp2
      go_ret
      exact ⟨rfl, gB.out HS5A.out⟩
end Go.Proofs.YtgpbhmcmbigbdaaGreatDoor.G

namespace Go.Proofs.YtgpbhmcmbigbdaaGreatDoor.joinTells
open Go.ChangeShapes Go.WideShapes Go.ChangeAt Go.RowKit Go.Proofs.YtgpbhmcmbigbdaaGreatDoorW.PrintWords Go.Proofs.YtgpbhmcmbigbdaaGreatDoorW.PrintLast Go.Proofs.YtgpbhmcmbigbdaaGreatDoorW.PrintMore Go.Proofs.YtgpbhmcmbigbdaaGreatDoor.PRefs
set_option linter.unusedVariables false
theorem own : ownKnob Tryz.prog.godebug = none := by kernel_rfl
theorem laidOut : laidOutB Tryz.prog = true := by kernel_rfl
set_option maxRecDepth 100000 in
theorem lifted (os : Os) (started : os.Started) (H : Type) (enc : TypeId × Value → H) :
    ReturnsInHanded {} Tryz.checked os 3 .any (fun w args => (Rows.joinTellsSpec.pre enc Tryz.prog Tryz.f3 [] false w args ∧ laidMetH Tryz.prog G.laidList w) ∧ sizedMet enc Tryz.prog Tryz.f3 (OpenSpec.ofChange Rows.joinTellsSpec) false w args)
      (Rows.joinTellsSpec.post enc Tryz.prog Tryz.f3 false true false false) := by
  refine returnsInHanded_of_change_and (C := Tryz.checked) (X := fun w _ => laidMetH Tryz.prog G.laidList w) (fun _ _ _ hh h => h.of_heap hh) own started (by kernel_rfl) Tryz.func3
    (ChangeSpec.witness_shaped (enc := enc) (C := Tryz.checked) (os := os) (X := fun w _ => laidMetH Tryz.prog G.laidList w) false (World.doorLaid Tryz.prog 400 os) #[.agg #[.slice none 0 0, .slice none 0 0], .agg #[.slice none 0 0, .slice none 0 0], .int .i64 0] 8 rfl (World.shaped_of_RefB (by kernel_rfl) (by kernel_rfl)) (by kernel_rfl) (by kernel_rfl) (by kernel_rfl) (G.door_met os _)) ?_
  intro W base args ds gs before hval0 hW _ _ hL _
  have htab := G.tab_of hL
  have hval : ∀ (j : Nat) t v, Tryz.f3.params[j]? = some t → args[j]? = some v → Value.okWide Tryz.prog W .any base t v := hval0
  have hW' := hW
  obtain ⟨p, q, hA0, hV, rfl, hfz, hnd⟩ := hW
  have hA : DataW.TrodAll enc Tryz.prog W 0 (fun _ => true) true Tryz.f3.params.toList args.toList ds p := hA0
  rw [Tryz.params3] at hA hval
  obtain ⟨v0, vs0, d0, ds0, p0, q0, hargs, rfl, rfl, h0, r0⟩ := trodAll_cons hA
  obtain ⟨v1, vs1, d1, ds1, p1, q1, rfl, rfl, rfl, h1, r1⟩ := trodAll_cons r0
  obtain ⟨v2, vs2, d2, ds2, p2, q2, rfl, rfl, rfl, h2, r2⟩ := trodAll_cons r1
  obtain ⟨rfl, rfl, rfl⟩ := trodAll_nil r2
  obtain rfl : args = #[v0, v1, v2] := by cases args; simp_all
  obtain ⟨rfl, rfl⟩ := trodVars_none hV
  obtain ⟨cs0, rfl, hcs0⟩ := okWide_struct Tryz.underlying25 (hval 0 25 v0 rfl rfl)
  obtain ⟨cs1, rfl, hcs1⟩ := okWide_struct Tryz.underlying25 (hval 1 25 v1 rfl rfl)
  have k0 := h0
  have lt0 : ∀ x ∈ p0, x.block < W.heap.size := by obtain ⟨m, hm⟩ := k0; exact DataW.trod_lt m _ _ _ hm
  have k1 := h1
  have lt1 : ∀ x ∈ p1, x.block < W.heap.size := by obtain ⟨m, hm⟩ := k1; exact DataW.trod_lt m _ _ _ hm
  obtain ⟨a0, cap0, z0, ar0, capr0, zr0, rfl, c0⟩ : ∃ A c sc A' c' L, cs0 = #[.slice A sc.length c, .slice A' L.length c'] ∧ G.RelRd W A c sc A' c' L := by obtain ⟨m, hm⟩ := h0; exact G.in_part hm
  obtain ⟨a1, cap1, z1, ar1, capr1, zr1, rfl, c1⟩ : ∃ A c sc A' c' L, cs1 = #[.slice A sc.length c, .slice A' L.length c'] ∧ G.RelRd W A c sc A' c' L := by obtain ⟨m, hm⟩ := h1; exact G.in_part hm
  obtain ⟨a2, rfl, rfl, rfl, w2⟩ := open_int Tryz.underlying3 (hval 2 3 v2 rfl rfl) h2
  clear hA0 hval0
  refine (G.jointells_walk a0 cap0 z0 ar0 capr0 zr0 a1 cap1 z1 ar1 capr1 zr1 a2 W c0 c1 htab).mono fun e W' ⟨he, bel⟩ => ?_
  subst he
  exact ⟨_, rfl, _, _, _, [], _, [], hW', trodAll_mk1 (shut_bool Tryz.underlying4 _), (trodAll_cons_mk (Below.trod laidOut (by kernel_rfl) (of_decide_eq_true (by kernel_rfl)) k0 bel lt0) (trodAll_cons_mk (Below.trod laidOut (by kernel_rfl) (of_decide_eq_true (by kernel_rfl)) k1 bel lt1) (trodAll_cons_mk (shut_int Tryz.underlying3 w2) trodAll_mk0))), rfl, bel.frame _, fun h => by cases h⟩
theorem over : Rows.joinTellsRow.holds Tryz.pinned (OpenSpec.ofChange Rows.joinTellsSpec) :=
  OpenClaim.holds_of_wide 3 Tryz.f3 rfl rfl rfl rfl rfl rfl rfl ⟨rfl, rfl, rfl, rfl, rfl⟩ rfl rfl rfl rfl rfl (by kernel_rfl) Tryz.func3 (by kernel_rfl)
    (of_decide_eq_true (by kernel_rfl)) (by unfold Func.isWrapper; first | (rw [if_pos (by decide +kernel)]; kernel_rfl) | (rw [if_neg (by decide +kernel)]; exact ⟨rfl, rfl⟩))
    (fun os started H enc _ => lifted os started H enc)
theorem proved : Rows.JoinTellsCardSaid :=
  Claim7.holds_tied_plain_at .later [] [.data, .data, .data] true Rows.joinTellsCard.stood.harness false
    over (fun _ h => by cases h) (by kernel_rfl) (fun _ h => by cases h) joinTells_row_tie rfl ⟨rfl, rfl⟩ (by kernel_rfl) rfl
    (fun f fn hf hfn => by
      obtain rfl : f = 3 := Option.some.inj ((show Tryz.prog.funcNamed "arborist/arboristlaw03.JoinTells" = some 3 by kernel_rfl).symm.trans hf) |>.symm
      obtain rfl : fn = Tryz.f3 := (Option.some.inj (Tryz.func3.symm.trans hfn)).symm
      exact ⟨by kernel_rfl, fun j t ht => by
        rw [Tryz.params3] at ht
        have hm : t ∈ [25, 25, 3] := by simpa using Array.mem_of_getElem? ht
        have hall : ([25, 25, 3].all fun u => !Tryz.prog.wantsStandIn u) = true := by kernel_rfl
        exact (show Tryz.prog.wantsStandIn t = false by simpa using List.all_eq_true.1 hall t hm)⟩)
    (by kernel_rfl)
#print axioms proved
end Go.Proofs.YtgpbhmcmbigbdaaGreatDoor.joinTells
