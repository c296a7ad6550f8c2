/- Proved: for every input the law arboristlaw02.RelTwice returns true and its arguments read as they did. No condition. -/
import Derived.Test.YtlinhcgggfdlpaaRows
import Derived.Test.YtlinhcgggfdlpaaBox
import Derived.Deep.Matrix
import Derived.ProofKit
import Derived.OpenShut
import Derived.WalkKit
import Derived.ShutString
import Derived.ChangeOld
import Derived.Below
set_option linter.unusedVariables false
set_option linter.unusedSimpArgs false
namespace Go.Proofs.Ytlinhcgggfdlpaa.G
open Go.RowKit Go.Proofs.YtlinhcgggfdlpaaW.PrintWords Go.Proofs.YtlinhcgggfdlpaaW.PrintLast Go.Proofs.YtlinhcgggfdlpaaW.PrintMore Go.Proofs.Ytlinhcgggfdlpaa.PRefs
attribute [local go_sem] min2_mn min_two

set_option maxHeartbeats 2000000 in
set_option maxRecDepth 100000 in
theorem reltwice_walk (A0 : Option Addr) (c0 : Nat) (sch : List Int) (A1 : Option Addr) (c1 : Nat) (rows : List (List Int)) (A2 : Option Addr) (c2 : Nat) (one : List Int) (A3 : Option Addr) (c3 : Nat) (two : List Int) (w : World) (hr0 : Kd.C KI w A0 sch.length sch) (hc0 : sch.length ≤ c0) (hr1 : Kd.C KL w A1 rows.length rows) (hc1 : rows.length ≤ c1) (hr2 : Kd.C KI w A2 one.length one) (hc2 : one.length ≤ c2) (hr3 : Kd.C KI w A3 two.length two) (hc3 : two.length ≤ c3) :
    Calls Try.prog 7 #[.slice A0 sch.length c0, .slice A1 rows.length c1, .slice A2 one.length c2, .slice A3 two.length c3] w fun e w' => e = .returned (.bool true) ∧ Below w.heap.size w w' := by
  have HIN := Aside0.mk (And.intro hr0 (And.intro hr1 (And.intro hr2 hr3)))
  have hP := right_small sch rows
  have hz := sz_small sch rows
  have HF := Aside0.mk (Small_f sch rows 4000 (Nat.le_refl _))
  generalize smallRows (smallS sch).length rows = L at *
  generalize smallS sch = SC at *
  obtain ⟨hcut1, hcut2, hcut3⟩ := cut10m A2 c2 one hc2
  obtain ⟨hcut4, hcut5, hcut6⟩ := cut10m A3 c3 two hc3
  have hV1 : (one.take 10).length ≤ 1000 := by simp; omega
  have hV2 : (two.take 10).length ≤ 1000 := by simp; omega
  generalize one.take 10 = V1 at *
  generalize two.take 10 = V2 at *
  have hz1 := sz_proj hz V1 hP
  have hp1 := right_proj hP V1
  have e11 := proj_twice hP V1
  have hz2 := sz_proj hz V2 hP
  have hp2 := right_proj hP V2
  have hz12 := sz_proj hz1 V2 hp1
  have e21 := proj_swap hP V2 V1
  have e0 := proj_self hP
  have hle : (projRel SC L V1).2.length ≤ L.length := cutRows_len _ _ _
  have h0 : (projRel SC L V1).2 = [] ↔ L = [] := cut_none _ _ _
  obtain ⟨⟨S1, L1⟩, e1⟩ : ∃ r, projRel SC L V1 = r := ⟨_, rfl⟩
  rw [e1] at hz1 hp1 e11 hle h0 hz12 e21
  simp only at hz1 hp1 e11 hle h0 hz12 e21
  obtain ⟨⟨S2, L2⟩, e2⟩ : ∃ r, projRel SC L V2 = r := ⟨_, rfl⟩
  rw [e2] at hz2 hp2 e21
  simp only at hz2 hp2 e21
  obtain ⟨⟨S3, L3⟩, e3⟩ : ∃ r, projRel S1 L1 V2 = r := ⟨_, rfl⟩
  rw [e3] at hz12 e21
  simp only at hz12
  have HE := Aside0.mk (And.intro e1 (And.intro e3 (And.intro e2 (And.intro e21 (And.intro e11 e0)))))
  have hle' : ((L1.length : Int) ≤ (L.length : Int)) := by omega
  have h0' : ((L1.length : Int) == 0) = ((L.length : Int) == 0) := by
    rw [Bool.eq_iff_iff, beq_iff_eq, beq_iff_eq]
    have a1 : (L1.length : Int) = 0 ↔ L1 = [] := by rw [← List.length_eq_zero_iff]; omega
    have a2 : (L.length : Int) = 0 ↔ L = [] := by rw [← List.length_eq_zero_iff]; omega
    rw [a1, a2, h0]
  clear e1 e3 e2 e21 e11 e0 h0 hle hp1 hp2 hP
  clear hr0 hr1 hr2 hr3
  have hf1 := rel_field1
  go_enter Try.func7, Try.ntmps7
  go_wp2_with (first
    | (have hgd := HB5; clear hgd; go_at_call 25; refine (project_is Hp5.out hz2 (Kd.C_below (hcut2 w HIN.out.2.2.1) HB5.out) hV1 HE.out.2.2.2.1).mono ?_; rintro e w6 ⟨Ac, cc, Dc, dc, rfl, hr6, hb6⟩; have hx6 := below_box hb6 (.cells #[.slice Ac S3.length cc, .slice Dc L3.length dc] 25); have HB6 := Aside0.mk (below_then HB5.out HB5.out.size hx6); have Hr6 := Aside0.mk (Hr5.out.step hx6); have Ha6 := Aside0.mk (Ha5.out.step hx6); have Hb6 := Aside0.mk (Hb5.out.step hx6); have Hc6 := Aside0.mk (RelBx.new hr6); have qr0_6 := blk2_c0 Hr6.out.blk; have qr1_6 := blk2_c1 Hr6.out.blk; have qa0_6 := blk2_c0 Ha6.out.blk; have qa1_6 := blk2_c1 Ha6.out.blk; have qb0_6 := blk2_c0 Hb6.out.blk; have qb1_6 := blk2_c1 Hb6.out.blk; have qc0_6 := blk2_c0 Hc6.out.blk; have qc1_6 := blk2_c1 Hc6.out.blk; clear hb6 hr6 hx6 Hp5 Hr5 Ha5 Hb5 qr0_5 qr1_5 qa0_5 qa1_5 qb0_5 qb1_5)
    | (have hgd := HB4; clear hgd; go_at_call 25; refine (project_is Hr4.out.rd hz (Kd.C_below (hcut5 w HIN.out.2.2.2) HB4.out) hV2 HE.out.2.2.1).mono ?_; rintro e w5 ⟨Ap, cp, Dp, dp, rfl, hr5, hb5⟩; have HB5 := Aside0.mk (below_then HB4.out HB4.out.size hb5); have Hr5 := Aside0.mk (Hr4.out.step hb5); have Ha5 := Aside0.mk (Ha4.out.step hb5); have Hb5 := Aside0.mk (Hb4.out.step hb5); have Hp5 := Aside0.mk (hr5); have qr0_5 := blk2_c0 Hr5.out.blk; have qr1_5 := blk2_c1 Hr5.out.blk; have qa0_5 := blk2_c0 Ha5.out.blk; have qa1_5 := blk2_c1 Ha5.out.blk; have qb0_5 := blk2_c0 Hb5.out.blk; have qb1_5 := blk2_c1 Hb5.out.blk; clear hb5 hr5 Hr4 Ha4 Hb4 qr0_4 qr1_4 qa0_4 qa1_4 qb0_4 qb1_4)
    | (have hgd := HB3; clear hgd; go_at_call 25; refine (project_is Ha3.out.rd hz1 (Kd.C_below (hcut5 w HIN.out.2.2.2) HB3.out) hV2 HE.out.2.1).mono ?_; rintro e w4 ⟨Ab, cb, Db, db, rfl, hr4, hb4⟩; have hx4 := below_box hb4 (.cells #[.slice Ab S3.length cb, .slice Db L3.length db] 25); have HB4 := Aside0.mk (below_then HB3.out HB3.out.size hx4); have Hr4 := Aside0.mk (Hr3.out.step hx4); have Ha4 := Aside0.mk (Ha3.out.step hx4); have Hb4 := Aside0.mk (RelBx.new hr4); have qr0_4 := blk2_c0 Hr4.out.blk; have qr1_4 := blk2_c1 Hr4.out.blk; have qa0_4 := blk2_c0 Ha4.out.blk; have qa1_4 := blk2_c1 Ha4.out.blk; have qb0_4 := blk2_c0 Hb4.out.blk; have qb1_4 := blk2_c1 Hb4.out.blk; clear hb4 hr4 hx4 Hr3 Ha3 qr0_3 qr1_3 qa0_3 qa1_3)
    | (have hgd := HB2; clear hgd; go_at_call 25; refine (project_is Hr2.out.rd hz (Kd.C_below (hcut2 w HIN.out.2.2.1) HB2.out) hV1 HE.out.1).mono ?_; rintro e w3 ⟨Aa, ca, Da, da, rfl, hr3, hb3⟩; have hx3 := below_box hb3 (.cells #[.slice Aa S1.length ca, .slice Da L1.length da] 25); have HB3 := Aside0.mk (below_then HB2.out HB2.out.size hx3); have Hr3 := Aside0.mk (Hr2.out.step hx3); have Ha3 := Aside0.mk (RelBx.new hr3); have qr0_3 := blk2_c0 Hr3.out.blk; have qr1_3 := blk2_c1 Hr3.out.blk; have qa0_3 := blk2_c0 Ha3.out.blk; have qa1_3 := blk2_c1 Ha3.out.blk; clear hb3 hr3 hx3 Hr2 qr0_2 qr1_2)
    | (have hgd := HB1; clear hgd; go_at_call 19; refine (small_is A0 c0 sch A1 c1 rows _ (Kd.C_below HIN.out.1 HB1.out) hc0 (Kd.C_below HIN.out.2.1 HB1.out) hc1 HF.out).mono ?_; rintro e w2 ⟨Ar, cr, Dr, dr, rfl, hr2, hb2⟩; have hx2 := below_box hb2 (.cells #[.slice Ar SC.length cr, .slice Dr L.length dr] 25); have HB2 := Aside0.mk (below_then HB1.out HB1.out.size hx2); have Hr2 := Aside0.mk (RelBx.new hr2); have qr0_2 := blk2_c0 Hr2.out.blk; have qr1_2 := blk2_c1 Hr2.out.blk; clear hb2 hr2 hx2)
    | (go_at_call 12; refine (shown_any _).mono ?_; rintro e w1 ⟨rfl, hb1⟩; have HB1 := Aside0.mk hb1; clear hb1))
  clear qr0_6 qr1_6 qa0_6 qa1_6 qb0_6 qb1_6 qc0_6 qc1_6
  obtain ⟨I, hI⟩ : ∃ I : World → Prop, ∀ W, I W ↔ (Below w.heap.size w W ∧ RelBx W w2.heap.size Ar cr SC Dr dr L ∧ RelBx W w3.heap.size Aa ca S1 Da da L1 ∧ RelBx W w4.heap.size Ab cb S3 Db db L3 ∧ RelBx W w6.heap.size Ac cc S3 Dc dc L3) := ⟨_, fun _ => Iff.rfl⟩
  have hIst : ∀ {W W1 : World}, I W → Below W.heap.size W W1 → I W1 := fun h hb => by
    obtain ⟨h0, h1, h2, h3, h4⟩ := (hI _).1 h
    exact (hI _).2 ⟨below_then h0 h0.size hb, h1.step hb, h2.step hb, h3.step hb, h4.step hb⟩
  have hIal : ∀ {W : World}, I W → (W.cell? ⟨w2.heap.size, 0, none⟩ = some (.slice Ar SC.length cr) ∧ W.cell? ⟨w2.heap.size, 1, none⟩ = some (.slice Dr L.length dr) ∧ W.cell? ⟨w3.heap.size, 0, none⟩ = some (.slice Aa S1.length ca) ∧ W.cell? ⟨w3.heap.size, 1, none⟩ = some (.slice Da L1.length da) ∧ W.cell? ⟨w4.heap.size, 0, none⟩ = some (.slice Ab S3.length cb) ∧ W.cell? ⟨w4.heap.size, 1, none⟩ = some (.slice Db L3.length db) ∧ W.cell? ⟨w6.heap.size, 0, none⟩ = some (.slice Ac S3.length cc) ∧ W.cell? ⟨w6.heap.size, 1, none⟩ = some (.slice Dc L3.length dc) ∧ I W) := fun h => by
    obtain ⟨h0, h1, h2, h3, h4⟩ := (hI _).1 h
    exact ⟨blk2_c0 h1.blk, blk2_c1 h1.blk, blk2_c0 h2.blk, blk2_c1 h2.blk, blk2_c0 h3.blk, blk2_c1 h3.blk, blk2_c0 h4.blk, blk2_c1 h4.blk, h⟩
  have hIof : ∀ {W : World}, (W.cell? ⟨w2.heap.size, 0, none⟩ = some (.slice Ar SC.length cr) ∧ W.cell? ⟨w2.heap.size, 1, none⟩ = some (.slice Dr L.length dr) ∧ W.cell? ⟨w3.heap.size, 0, none⟩ = some (.slice Aa S1.length ca) ∧ W.cell? ⟨w3.heap.size, 1, none⟩ = some (.slice Da L1.length da) ∧ W.cell? ⟨w4.heap.size, 0, none⟩ = some (.slice Ab S3.length cb) ∧ W.cell? ⟨w4.heap.size, 1, none⟩ = some (.slice Db L3.length db) ∧ W.cell? ⟨w6.heap.size, 0, none⟩ = some (.slice Ac S3.length cc) ∧ W.cell? ⟨w6.heap.size, 1, none⟩ = some (.slice Dc L3.length dc) ∧ I W) → I W := fun h => h.2.2.2.2.2.2.2.2
  have hstep : ∀ {W W1 : World}, (W.cell? ⟨w2.heap.size, 0, none⟩ = some (.slice Ar SC.length cr) ∧ W.cell? ⟨w2.heap.size, 1, none⟩ = some (.slice Dr L.length dr) ∧ W.cell? ⟨w3.heap.size, 0, none⟩ = some (.slice Aa S1.length ca) ∧ W.cell? ⟨w3.heap.size, 1, none⟩ = some (.slice Da L1.length da) ∧ W.cell? ⟨w4.heap.size, 0, none⟩ = some (.slice Ab S3.length cb) ∧ W.cell? ⟨w4.heap.size, 1, none⟩ = some (.slice Db L3.length db) ∧ W.cell? ⟨w6.heap.size, 0, none⟩ = some (.slice Ac S3.length cc) ∧ W.cell? ⟨w6.heap.size, 1, none⟩ = some (.slice Dc L3.length dc) ∧ I W) → Below W.heap.size W W1 → (W1.cell? ⟨w2.heap.size, 0, none⟩ = some (.slice Ar SC.length cr) ∧ W1.cell? ⟨w2.heap.size, 1, none⟩ = some (.slice Dr L.length dr) ∧ W1.cell? ⟨w3.heap.size, 0, none⟩ = some (.slice Aa S1.length ca) ∧ W1.cell? ⟨w3.heap.size, 1, none⟩ = some (.slice Da L1.length da) ∧ W1.cell? ⟨w4.heap.size, 0, none⟩ = some (.slice Ab S3.length cb) ∧ W1.cell? ⟨w4.heap.size, 1, none⟩ = some (.slice Db L3.length db) ∧ W1.cell? ⟨w6.heap.size, 0, none⟩ = some (.slice Ac S3.length cc) ∧ W1.cell? ⟨w6.heap.size, 1, none⟩ = some (.slice Dc L3.length dc) ∧ I W1) := fun h hb => hIal (hIst (hIof h) hb)
  have gB : ∀ {W : World}, (W.cell? ⟨w2.heap.size, 0, none⟩ = some (.slice Ar SC.length cr) ∧ W.cell? ⟨w2.heap.size, 1, none⟩ = some (.slice Dr L.length dr) ∧ W.cell? ⟨w3.heap.size, 0, none⟩ = some (.slice Aa S1.length ca) ∧ W.cell? ⟨w3.heap.size, 1, none⟩ = some (.slice Da L1.length da) ∧ W.cell? ⟨w4.heap.size, 0, none⟩ = some (.slice Ab S3.length cb) ∧ W.cell? ⟨w4.heap.size, 1, none⟩ = some (.slice Db L3.length db) ∧ W.cell? ⟨w6.heap.size, 0, none⟩ = some (.slice Ac S3.length cc) ∧ W.cell? ⟨w6.heap.size, 1, none⟩ = some (.slice Dc L3.length dc) ∧ I W) → Below w.heap.size w W := fun h => ((hI _).1 (hIof h)).1
  have gr : ∀ {W : World}, (W.cell? ⟨w2.heap.size, 0, none⟩ = some (.slice Ar SC.length cr) ∧ W.cell? ⟨w2.heap.size, 1, none⟩ = some (.slice Dr L.length dr) ∧ W.cell? ⟨w3.heap.size, 0, none⟩ = some (.slice Aa S1.length ca) ∧ W.cell? ⟨w3.heap.size, 1, none⟩ = some (.slice Da L1.length da) ∧ W.cell? ⟨w4.heap.size, 0, none⟩ = some (.slice Ab S3.length cb) ∧ W.cell? ⟨w4.heap.size, 1, none⟩ = some (.slice Db L3.length db) ∧ W.cell? ⟨w6.heap.size, 0, none⟩ = some (.slice Ac S3.length cc) ∧ W.cell? ⟨w6.heap.size, 1, none⟩ = some (.slice Dc L3.length dc) ∧ I W) → RelBx W w2.heap.size Ar cr SC Dr dr L := fun h => ((hI _).1 (hIof h)).2.1
  have ga : ∀ {W : World}, (W.cell? ⟨w2.heap.size, 0, none⟩ = some (.slice Ar SC.length cr) ∧ W.cell? ⟨w2.heap.size, 1, none⟩ = some (.slice Dr L.length dr) ∧ W.cell? ⟨w3.heap.size, 0, none⟩ = some (.slice Aa S1.length ca) ∧ W.cell? ⟨w3.heap.size, 1, none⟩ = some (.slice Da L1.length da) ∧ W.cell? ⟨w4.heap.size, 0, none⟩ = some (.slice Ab S3.length cb) ∧ W.cell? ⟨w4.heap.size, 1, none⟩ = some (.slice Db L3.length db) ∧ W.cell? ⟨w6.heap.size, 0, none⟩ = some (.slice Ac S3.length cc) ∧ W.cell? ⟨w6.heap.size, 1, none⟩ = some (.slice Dc L3.length dc) ∧ I W) → RelBx W w3.heap.size Aa ca S1 Da da L1 := fun h => ((hI _).1 (hIof h)).2.2.1
  have gb : ∀ {W : World}, (W.cell? ⟨w2.heap.size, 0, none⟩ = some (.slice Ar SC.length cr) ∧ W.cell? ⟨w2.heap.size, 1, none⟩ = some (.slice Dr L.length dr) ∧ W.cell? ⟨w3.heap.size, 0, none⟩ = some (.slice Aa S1.length ca) ∧ W.cell? ⟨w3.heap.size, 1, none⟩ = some (.slice Da L1.length da) ∧ W.cell? ⟨w4.heap.size, 0, none⟩ = some (.slice Ab S3.length cb) ∧ W.cell? ⟨w4.heap.size, 1, none⟩ = some (.slice Db L3.length db) ∧ W.cell? ⟨w6.heap.size, 0, none⟩ = some (.slice Ac S3.length cc) ∧ W.cell? ⟨w6.heap.size, 1, none⟩ = some (.slice Dc L3.length dc) ∧ I W) → RelBx W w4.heap.size Ab cb S3 Db db L3 := fun h => ((hI _).1 (hIof h)).2.2.2.1
  have gc : ∀ {W : World}, (W.cell? ⟨w2.heap.size, 0, none⟩ = some (.slice Ar SC.length cr) ∧ W.cell? ⟨w2.heap.size, 1, none⟩ = some (.slice Dr L.length dr) ∧ W.cell? ⟨w3.heap.size, 0, none⟩ = some (.slice Aa S1.length ca) ∧ W.cell? ⟨w3.heap.size, 1, none⟩ = some (.slice Da L1.length da) ∧ W.cell? ⟨w4.heap.size, 0, none⟩ = some (.slice Ab S3.length cb) ∧ W.cell? ⟨w4.heap.size, 1, none⟩ = some (.slice Db L3.length db) ∧ W.cell? ⟨w6.heap.size, 0, none⟩ = some (.slice Ac S3.length cc) ∧ W.cell? ⟨w6.heap.size, 1, none⟩ = some (.slice Dc L3.length dc) ∧ I W) → RelBx W w6.heap.size Ac cc S3 Dc dc L3 := fun h => ((hI _).1 (hIof h)).2.2.2.2
  replace hI := Aside0.mk @hI
  replace hIst := Aside0.mk @hIst
  replace hIal := Aside0.mk @hIal
  replace hIof := Aside0.mk @hIof
  replace hstep := Aside0.mk @hstep
  replace gB := Aside0.mk @gB
  replace gr := Aside0.mk @gr
  replace ga := Aside0.mk @ga
  replace gb := Aside0.mk @gb
  replace gc := Aside0.mk @gc
  have HS0A := Aside0.mk (hIal.out ((hI.out _).2 ⟨HB6.out, Hr6.out, Ha6.out, Hb6.out, Hc6.out⟩))
  have HSDA := Aside0.mk (hstep.out HS0A.out (below_drew (Below.refl _ _)))
  go_region_held3 (fun W => W.cell? ⟨w2.heap.size, 0, none⟩ = some (.slice Ar SC.length cr) ∧ W.cell? ⟨w2.heap.size, 1, none⟩ = some (.slice Dr L.length dr) ∧ W.cell? ⟨w3.heap.size, 0, none⟩ = some (.slice Aa S1.length ca) ∧ W.cell? ⟨w3.heap.size, 1, none⟩ = some (.slice Da L1.length da) ∧ W.cell? ⟨w4.heap.size, 0, none⟩ = some (.slice Ab S3.length cb) ∧ W.cell? ⟨w4.heap.size, 1, none⟩ = some (.slice Db L3.length db) ∧ W.cell? ⟨w6.heap.size, 0, none⟩ = some (.slice Ac S3.length cc) ∧ W.cell? ⟨w6.heap.size, 1, none⟩ = some (.slice Dc L3.length dc) ∧ I W)
    (first | with_reducible exact HS5A.out | with_reducible exact HS4A.out | with_reducible exact HS3A.out | with_reducible exact HS2A.out | with_reducible exact HS1A.out | with_reducible exact HSDA.out | with_reducible exact HS0A.out | with_reducible exact hstep.out (by assumption) (below_alloc (Below.refl _ _) _) | with_reducible exact hstep.out (by assumption) (below_drew (Below.refl _ _)))
    (first
      | (have hgd := HS4A; clear hgd; go_at_call 20; refine (same_is Hz.out hz (gr.out (by assumption)).rd true (by simp)).mono ?_; rintro e v5 ⟨rfl, hb5⟩; have hS5 := hstep.out (by assumption) hb5; have HS5A := Aside0.mk hS5; clear hS5 hb5)
      | (have hgd := HS3A; clear hgd; go_at_call 25; refine (project_is (gr.out (by assumption)).rd hz (gr.out (by assumption)).rd.row hz.s HE.out.2.2.2.2.2).mono ?_; rintro e v4 ⟨Az, cz, Dz, dz, rfl, hr4, hb4⟩; have Hz := Aside0.mk hr4; have hS4 := hstep.out (by assumption) hb4; have HS4A := Aside0.mk hS4; clear hS4 hb4 hr4)
      | (have hgd := HS2A; clear hgd; go_at_call 20; refine (same_is (gb.out (by assumption)).rd hz12 (gc.out (by assumption)).rd true (by simp)).mono ?_; rintro e v3 ⟨rfl, hb3⟩; have hS3 := hstep.out (by assumption) hb3; have HS3A := Aside0.mk hS3; clear hS3 hb3)
      | (have hgd := HS1A; clear hgd; go_at_call 20; refine (same_is Hu.out hz1 (ga.out (by assumption)).rd true (by simp)).mono ?_; rintro e v2 ⟨rfl, hb2⟩; have hS2 := hstep.out (by assumption) hb2; have HS2A := Aside0.mk hS2; clear hS2 hb2)
      | (go_at_call 25; refine (project_is (ga.out (by assumption)).rd hz1 (Kd.C_below (hcut2 w HIN.out.2.2.1) (gB.out (by assumption))) hV1 HE.out.2.2.2.2.1).mono ?_; rintro e v1 ⟨Au, cu, Du, du, rfl, hr1, hb1⟩; have Hu := Aside0.mk hr1; have hS1 := hstep.out (by assumption) hb1; have HS1A := Aside0.mk hS1; clear hS1 hb1 hr1))
  all_goals
    go_wp2
    go_ret
    exact ⟨rfl, gB.out HS5A.out⟩
end Go.Proofs.Ytlinhcgggfdlpaa.G

namespace Go.Proofs.Ytlinhcgggfdlpaa.relTwice
open Go.ChangeShapes Go.WideShapes Go.ChangeAt Go.RowKit Go.Proofs.YtlinhcgggfdlpaaW.PrintWords Go.Proofs.YtlinhcgggfdlpaaW.PrintLast Go.Proofs.YtlinhcgggfdlpaaW.PrintMore
set_option linter.unusedVariables false
theorem own : ownKnob Try.prog.godebug = none := by kernel_rfl
theorem laidOut : laidOutB Try.prog = true := by kernel_rfl
set_option maxRecDepth 100000 in
theorem lifted (os : Os) (started : os.Started) (H : Type) (enc : TypeId × Value → H) :
    ReturnsInHanded {} Try.checked os 7 .any (Rows.relTwiceSpec.pre6 enc Try.prog Try.f7 Rows.relTwiceRow.domain false) (Rows.relTwiceSpec.post enc Try.prog Try.f7 false true false false) := by
  refine returnsInHanded_of_change (C := Try.checked) own started (by kernel_rfl) Try.func7
    (ChangeSpec.witness6 (enc := enc) (C := Try.checked) false ⟨#[], #[.slice none 0 0, .slice none 0 0, .slice none 0 0, .slice none 0 0], []⟩ 8 (by kernel_rfl) (by kernel_rfl) (by kernel_rfl) (by kernel_rfl)) ?_
  intro W base args ds gs before hval0 hW hcnd _
  have hval : ∀ (j : Nat) t v, Try.f7.params[j]? = some t → args[j]? = some v → Value.okWide Try.prog W .any base t v := hval0
  have hW' := hW
  obtain ⟨p, q, hA0, hV, rfl, hfz, hnd⟩ := hW
  have hA : DataW.TrodAll enc Try.prog W 0 (fun _ => true) true Try.f7.params.toList args.toList ds p := hA0
  rw [Try.params7] at hA hval
  obtain ⟨v0, vs0, d0, ds0, p0, q0, hargs, rfl, rfl, h0, r0⟩ := trodAll_cons hA
  obtain ⟨v1, vs1, d1, ds1, p1, q1, rfl, rfl, rfl, h1, r1⟩ := trodAll_cons r0
  obtain ⟨v2, vs2, d2, ds2, p2, q2, rfl, rfl, rfl, h2, r2⟩ := trodAll_cons r1
  obtain ⟨v3, vs3, d3, ds3, p3, q3, rfl, rfl, rfl, h3, r3⟩ := trodAll_cons r2
  obtain ⟨rfl, rfl, rfl⟩ := trodAll_nil r3
  obtain rfl : args = #[v0, v1, v2, v3] := by cases args; simp_all
  obtain ⟨rfl, rfl⟩ := trodVars_none hV
  obtain ⟨a0, len0, cap0, rfl⟩ := okWide_slice Try.underlying22 (hval 0 22 v0 rfl rfl)
  obtain ⟨a1, len1, cap1, rfl⟩ := okWide_slice Try.underlying23 (hval 1 23 v1 rfl rfl)
  obtain ⟨a2, len2, cap2, rfl⟩ := okWide_slice Try.underlying22 (hval 2 22 v2 rfl rfl)
  obtain ⟨a3, len3, cap3, rfl⟩ := okWide_slice Try.underlying22 (hval 3 22 v3 rfl rfl)
  have k0 := h0
  have lt0 : ∀ x ∈ p0, x.block < W.heap.size := by obtain ⟨m, hm⟩ := k0; exact DataW.trod_lt m _ _ _ hm
  have k1 := h1
  have lt1 : ∀ x ∈ p1, x.block < W.heap.size := by obtain ⟨m, hm⟩ := k1; exact DataW.trod_lt m _ _ _ hm
  have k2 := h2
  have lt2 : ∀ x ∈ p2, x.block < W.heap.size := by obtain ⟨m, hm⟩ := k2; exact DataW.trod_lt m _ _ _ hm
  have k3 := h3
  have lt3 : ∀ x ∈ p3, x.block < W.heap.size := by obtain ⟨m, hm⟩ := k3; exact DataW.trod_lt m _ _ _ hm
  obtain ⟨z0, e0, l0, c0⟩ : ∃ xs : List Int, xs.length = len0 ∧ len0 ≤ cap0 ∧ Kd.C G.KI W a0 xs.length xs := by obtain ⟨m, hm⟩ := h0; exact G.in_ints hm
  obtain ⟨z1, e1, l1, c1⟩ : ∃ L : List (List Int), L.length = len1 ∧ len1 ≤ cap1 ∧ Kd.C G.KL W a1 L.length L := by obtain ⟨m, hm⟩ := h1; exact G.in_rows hm
  obtain ⟨z2, e2, l2, c2⟩ : ∃ xs : List Int, xs.length = len2 ∧ len2 ≤ cap2 ∧ Kd.C G.KI W a2 xs.length xs := by obtain ⟨m, hm⟩ := h2; exact G.in_ints hm
  obtain ⟨z3, e3, l3, c3⟩ : ∃ xs : List Int, xs.length = len3 ∧ len3 ≤ cap3 ∧ Kd.C G.KI W a3 xs.length xs := by obtain ⟨m, hm⟩ := h3; exact G.in_ints hm
  clear hA0 hval0
  subst e0 e1 e2 e3
  refine (G.reltwice_walk a0 cap0 z0 a1 cap1 z1 a2 cap2 z2 a3 cap3 z3 W c0 l0 c1 l1 c2 l2 c3 l3).mono fun e W' ⟨he, bel⟩ => ?_
  subst he
  exact ⟨_, rfl, _, _, _, [], _, [], hW', trodAll_mk1 (shut_bool Try.underlying4 _), (trodAll_cons_mk (Below.trod laidOut (by kernel_rfl) (of_decide_eq_true (by kernel_rfl)) k0 bel lt0) (trodAll_cons_mk (Below.trod laidOut (by kernel_rfl) (of_decide_eq_true (by kernel_rfl)) k1 bel lt1) (trodAll_cons_mk (Below.trod laidOut (by kernel_rfl) (of_decide_eq_true (by kernel_rfl)) k2 bel lt2) (trodAll_cons_mk (Below.trod laidOut (by kernel_rfl) (of_decide_eq_true (by kernel_rfl)) k3 bel lt3) trodAll_mk0)))), rfl, bel.frame _, fun h => by cases h⟩
theorem over : Rows.relTwiceRow.holds Try.pinned (OpenSpec.ofChange Rows.relTwiceSpec) :=
  OpenClaim.holds_of_wide 7 Try.f7 rfl rfl rfl rfl rfl rfl rfl ⟨rfl, rfl, rfl, rfl, rfl⟩ rfl rfl rfl rfl rfl (by kernel_rfl) Try.func7 (by kernel_rfl)
    (of_decide_eq_true (by kernel_rfl)) (by unfold Func.isWrapper; first | (rw [if_pos (by decide +kernel)]; kernel_rfl) | (rw [if_neg (by decide +kernel)]; exact ⟨rfl, rfl⟩))
    (fun os started H enc _ => lifted os started H enc)
theorem proved : Rows.RelTwiceSaid := over
#print axioms proved
end Go.Proofs.Ytlinhcgggfdlpaa.relTwice
