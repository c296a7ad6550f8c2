/- Proved: for every input the law arboristlaw02.RelParts returns true and its arguments read as they did. No condition. -/
import Derived.Test.YtlinhcgggfdlpaaRows
import Derived.Test.YtlinhcgggfdlpaaBox
import Derived.Test.YtlinhcgggfdlpaaDocs
import Derived.Test.YtlinhcgggfdlpaaDocsP
import Derived.Test.YtlinhcgggfdlpaaDocSel
import Derived.Test.YtlinhcgggfdlpaaDocs2
import Derived.Deep.Matrix
import Derived.ProofKit
import Derived.OpenShut
import Derived.WalkKit
import Derived.ShutString
import Derived.ChangeOld
import Derived.Below
set_option linter.unusedVariables false
set_option linter.unusedSimpArgs false
namespace Go.Proofs.Ytlinhcgggfdlpaa.G
open Go.RowKit Go.Proofs.YtlinhcgggfdlpaaW.PrintWords Go.Proofs.YtlinhcgggfdlpaaW.PrintLast Go.Proofs.YtlinhcgggfdlpaaW.PrintMore Go.Proofs.Ytlinhcgggfdlpaa.PRefs
attribute [local go_sem] min2_mn min_two

set_option maxHeartbeats 16000000 in
set_option maxRecDepth 100000 in
theorem relparts_walk (A0 : Option Addr) (c0 : Nat) (sch : List Int) (A1 : Option Addr) (c1 : Nat) (rows : List (List Int)) (A2 : Option Addr) (c2 : Nat) (vars : List Int) (v : Int) (value : Int) (w : World) (hr0 : Kd.C KI w A0 sch.length sch) (hc0 : sch.length ≤ c0) (hr1 : Kd.C KL w A1 rows.length rows) (hc1 : rows.length ≤ c1) (hr2 : Kd.C KI w A2 vars.length vars) (hc2 : vars.length ≤ c2) :
    Calls Try.prog 8 #[.slice A0 sch.length c0, .slice A1 rows.length c1, .slice A2 vars.length c2, .int .i64 v, .int .i64 value] w fun e w' => e = .returned (.bool true) ∧ Below w.heap.size w w' := by
  have HIN := Aside0.mk (And.intro hr0 (And.intro hr1 hr2))
  have hP := right_small sch rows
  have hz := sz_small sch rows
  have HF := Aside0.mk (Small_f sch rows 4000 (Nat.le_refl _))
  have hL20 := smallRows_len (smallS sch).length rows
  generalize smallRows (smallS sch).length rows = L at *
  generalize smallS sch = SC at *
  obtain ⟨hcut1, hcut2, hcut3⟩ := cut10m A2 c2 vars hc2
  have hVl : (vars.take 10).length ≤ 10 := by simp; omega
  generalize vars.take 10 = V at *
  have hV : V.length ≤ 1000 := by omega
  have hL1000 : L.length ≤ 1000 := by omega
  have hz1 := sz_proj hz V hP
  have hp1 := right_proj hP V
  have hz2 := sz_sel hz v value
  have hp2 := right_sel hP v value
  have hvl := vals_len hP v
  obtain ⟨pf, hpf⟩ := FindR_f L V 5000000 (by omega) (fun x hx => by have := hz.x x hx; omega) (by omega) hP.2.2 (Nat.le_refl _)
  obtain ⟨⟨S1, L1⟩, e1⟩ : ∃ r, projRel SC L V = r := ⟨_, rfl⟩
  rw [e1] at hz1 hp1
  obtain ⟨⟨S2, L2⟩, e2⟩ : ∃ r, selRel SC L v value = r := ⟨_, rfl⟩
  rw [e2] at hz2 hp2
  simp only at hz1 hp1 hz2 hp2
  obtain ⟨l, e3⟩ : ∃ l, valsOf SC L v = l := ⟨_, rfl⟩
  rw [e3] at hvl
  obtain ⟨bin, e4⟩ : ∃ b, decide (V ∈ L) = b := ⟨_, rfl⟩
  rw [e4] at hpf
  have HPF := Aside0.mk hpf
  have HP := Aside0.mk hP
  have HE := Aside0.mk (And.intro e1 (And.intro e2 (And.intro e3 e4)))
  have HCM := Aside0.mk (show arboristref01_Compare.f 5000 l l = some 0 by rw [Compare_f l l 5000 (by omega) (by omega) (by omega), Pl.cmp_self])
  have hbb : (bin == bin) = true := by cases bin <;> rfl
  clear hpf e1 e2 e3 e4 hP hvl
  clear hr0 hr1 hr2
  have hf1 := rel_field1
  go_enter Try.func8, Try.ntmps8
  go_wp2_with (first
    | (have hgd := HB4; clear hgd; go_at_call 27; refine (arboristref01_Find.calls 5000000 Dr dr L A2 c2 V pf bin _ Hr4.out.rd.rows Hr4.out.rd.cap2 (Kd.C_below (hcut2 w HIN.out.2.2) HB4.out) hcut3 HPF.out).mono ?_; rintro e w5 ⟨rfl, hd5⟩; have hb5 := hd5.below; clear hd5; have HB5 := Aside0.mk (below_then HB4.out HB4.out.size hb5); have Hr5 := Aside0.mk (Hr4.out.step hb5); have Ha5 := Aside0.mk (Ha4.out.step hb5); have Hb5 := Aside0.mk (Hb4.out.step hb5); have qr0_5 := blk2_c0 Hr5.out.blk; have qr1_5 := blk2_c1 Hr5.out.blk; have qa0_5 := blk2_c0 Ha5.out.blk; have qa1_5 := blk2_c1 Ha5.out.blk; have qb0_5 := blk2_c0 Hb5.out.blk; have qb1_5 := blk2_c1 Hb5.out.blk; clear hb5 Hr4 Ha4 Hb4 qr0_4 qr1_4 qa0_4 qa1_4 qb0_4 qb1_4)
    | (have hgd := HB3; clear hgd; go_at_call 26; refine (select_is Hr3.out.rd hz HE.out.2.1).mono ?_; rintro e w4 ⟨Ab, cb, Db, db, rfl, hr4, hb4⟩; have hx4 := below_box hb4 (.cells #[.slice Ab S2.length cb, .slice Db L2.length db] 25); have HB4 := Aside0.mk (below_then HB3.out HB3.out.size hx4); have Hr4 := Aside0.mk (Hr3.out.step hx4); have Ha4 := Aside0.mk (Ha3.out.step hx4); have Hb4 := Aside0.mk (RelBx.new hr4); have qr0_4 := blk2_c0 Hr4.out.blk; have qr1_4 := blk2_c1 Hr4.out.blk; have qa0_4 := blk2_c0 Ha4.out.blk; have qa1_4 := blk2_c1 Ha4.out.blk; have qb0_4 := blk2_c0 Hb4.out.blk; have qb1_4 := blk2_c1 Hb4.out.blk; clear hb4 hr4 hx4 Hr3 Ha3 qr0_3 qr1_3 qa0_3 qa1_3)
    | (have hgd := HB2; clear hgd; go_at_call 25; refine (project_is Hr2.out.rd hz (Kd.C_below (hcut2 w HIN.out.2.2) HB2.out) hV HE.out.1).mono ?_; rintro e w3 ⟨Aa, ca, Da, da, rfl, hr3, hb3⟩; have hx3 := below_box hb3 (.cells #[.slice Aa S1.length ca, .slice Da L1.length da] 25); have HB3 := Aside0.mk (below_then HB2.out HB2.out.size hx3); have Hr3 := Aside0.mk (Hr2.out.step hx3); have Ha3 := Aside0.mk (RelBx.new hr3); have qr0_3 := blk2_c0 Hr3.out.blk; have qr1_3 := blk2_c1 Hr3.out.blk; have qa0_3 := blk2_c0 Ha3.out.blk; have qa1_3 := blk2_c1 Ha3.out.blk; clear hb3 hr3 hx3 Hr2 qr0_2 qr1_2)
    | (have hgd := HB1; clear hgd; go_at_call 19; refine (small_is A0 c0 sch A1 c1 rows _ (Kd.C_below HIN.out.1 HB1.out) hc0 (Kd.C_below HIN.out.2.1 HB1.out) hc1 HF.out).mono ?_; rintro e w2 ⟨Ar, cr, Dr, dr, rfl, hr2, hb2⟩; have hx2 := below_box hb2 (.cells #[.slice Ar SC.length cr, .slice Dr L.length dr] 25); have HB2 := Aside0.mk (below_then HB1.out HB1.out.size hx2); have Hr2 := Aside0.mk (RelBx.new hr2); have qr0_2 := blk2_c0 Hr2.out.blk; have qr1_2 := blk2_c1 Hr2.out.blk; clear hb2 hr2 hx2)
    | (go_at_call 12; refine (shown_any _).mono ?_; rintro e w1 ⟨rfl, hb1⟩; have HB1 := Aside0.mk hb1; clear hb1))
  clear qr0_5 qr1_5 qa0_5 qa1_5 qb0_5 qb1_5
  obtain ⟨I, hI⟩ : ∃ I : World → Prop, ∀ W, I W ↔ (Below w.heap.size w W ∧ RelBx W w2.heap.size Ar cr SC Dr dr L ∧ RelBx W w3.heap.size Aa ca S1 Da da L1 ∧ RelBx W w4.heap.size Ab cb S2 Db db L2) := ⟨_, fun _ => Iff.rfl⟩
  have hIst : ∀ {W W1 : World}, I W → Below W.heap.size W W1 → I W1 := fun h hb => by
    obtain ⟨h0, h1, h2, h3⟩ := (hI _).1 h
    exact (hI _).2 ⟨below_then h0 h0.size hb, h1.step hb, h2.step hb, h3.step hb⟩
  have hIal : ∀ {W : World}, I W → (W.cell? ⟨w2.heap.size, 0, none⟩ = some (.slice Ar SC.length cr) ∧ W.cell? ⟨w2.heap.size, 1, none⟩ = some (.slice Dr L.length dr) ∧ W.cell? ⟨w3.heap.size, 0, none⟩ = some (.slice Aa S1.length ca) ∧ W.cell? ⟨w3.heap.size, 1, none⟩ = some (.slice Da L1.length da) ∧ W.cell? ⟨w4.heap.size, 0, none⟩ = some (.slice Ab S2.length cb) ∧ W.cell? ⟨w4.heap.size, 1, none⟩ = some (.slice Db L2.length db) ∧ I W) := fun h => by
    obtain ⟨h0, h1, h2, h3⟩ := (hI _).1 h
    exact ⟨blk2_c0 h1.blk, blk2_c1 h1.blk, blk2_c0 h2.blk, blk2_c1 h2.blk, blk2_c0 h3.blk, blk2_c1 h3.blk, h⟩
  have hIof : ∀ {W : World}, (W.cell? ⟨w2.heap.size, 0, none⟩ = some (.slice Ar SC.length cr) ∧ W.cell? ⟨w2.heap.size, 1, none⟩ = some (.slice Dr L.length dr) ∧ W.cell? ⟨w3.heap.size, 0, none⟩ = some (.slice Aa S1.length ca) ∧ W.cell? ⟨w3.heap.size, 1, none⟩ = some (.slice Da L1.length da) ∧ W.cell? ⟨w4.heap.size, 0, none⟩ = some (.slice Ab S2.length cb) ∧ W.cell? ⟨w4.heap.size, 1, none⟩ = some (.slice Db L2.length db) ∧ I W) → I W := fun h => h.2.2.2.2.2.2
  have hstep : ∀ {W W1 : World}, (W.cell? ⟨w2.heap.size, 0, none⟩ = some (.slice Ar SC.length cr) ∧ W.cell? ⟨w2.heap.size, 1, none⟩ = some (.slice Dr L.length dr) ∧ W.cell? ⟨w3.heap.size, 0, none⟩ = some (.slice Aa S1.length ca) ∧ W.cell? ⟨w3.heap.size, 1, none⟩ = some (.slice Da L1.length da) ∧ W.cell? ⟨w4.heap.size, 0, none⟩ = some (.slice Ab S2.length cb) ∧ W.cell? ⟨w4.heap.size, 1, none⟩ = some (.slice Db L2.length db) ∧ I W) → Below W.heap.size W W1 → (W1.cell? ⟨w2.heap.size, 0, none⟩ = some (.slice Ar SC.length cr) ∧ W1.cell? ⟨w2.heap.size, 1, none⟩ = some (.slice Dr L.length dr) ∧ W1.cell? ⟨w3.heap.size, 0, none⟩ = some (.slice Aa S1.length ca) ∧ W1.cell? ⟨w3.heap.size, 1, none⟩ = some (.slice Da L1.length da) ∧ W1.cell? ⟨w4.heap.size, 0, none⟩ = some (.slice Ab S2.length cb) ∧ W1.cell? ⟨w4.heap.size, 1, none⟩ = some (.slice Db L2.length db) ∧ I W1) := fun h hb => hIal (hIst (hIof h) hb)
  have gB : ∀ {W : World}, (W.cell? ⟨w2.heap.size, 0, none⟩ = some (.slice Ar SC.length cr) ∧ W.cell? ⟨w2.heap.size, 1, none⟩ = some (.slice Dr L.length dr) ∧ W.cell? ⟨w3.heap.size, 0, none⟩ = some (.slice Aa S1.length ca) ∧ W.cell? ⟨w3.heap.size, 1, none⟩ = some (.slice Da L1.length da) ∧ W.cell? ⟨w4.heap.size, 0, none⟩ = some (.slice Ab S2.length cb) ∧ W.cell? ⟨w4.heap.size, 1, none⟩ = some (.slice Db L2.length db) ∧ I W) → Below w.heap.size w W := fun h => ((hI _).1 (hIof h)).1
  have gr : ∀ {W : World}, (W.cell? ⟨w2.heap.size, 0, none⟩ = some (.slice Ar SC.length cr) ∧ W.cell? ⟨w2.heap.size, 1, none⟩ = some (.slice Dr L.length dr) ∧ W.cell? ⟨w3.heap.size, 0, none⟩ = some (.slice Aa S1.length ca) ∧ W.cell? ⟨w3.heap.size, 1, none⟩ = some (.slice Da L1.length da) ∧ W.cell? ⟨w4.heap.size, 0, none⟩ = some (.slice Ab S2.length cb) ∧ W.cell? ⟨w4.heap.size, 1, none⟩ = some (.slice Db L2.length db) ∧ I W) → RelBx W w2.heap.size Ar cr SC Dr dr L := fun h => ((hI _).1 (hIof h)).2.1
  have ga : ∀ {W : World}, (W.cell? ⟨w2.heap.size, 0, none⟩ = some (.slice Ar SC.length cr) ∧ W.cell? ⟨w2.heap.size, 1, none⟩ = some (.slice Dr L.length dr) ∧ W.cell? ⟨w3.heap.size, 0, none⟩ = some (.slice Aa S1.length ca) ∧ W.cell? ⟨w3.heap.size, 1, none⟩ = some (.slice Da L1.length da) ∧ W.cell? ⟨w4.heap.size, 0, none⟩ = some (.slice Ab S2.length cb) ∧ W.cell? ⟨w4.heap.size, 1, none⟩ = some (.slice Db L2.length db) ∧ I W) → RelBx W w3.heap.size Aa ca S1 Da da L1 := fun h => ((hI _).1 (hIof h)).2.2.1
  have gb : ∀ {W : World}, (W.cell? ⟨w2.heap.size, 0, none⟩ = some (.slice Ar SC.length cr) ∧ W.cell? ⟨w2.heap.size, 1, none⟩ = some (.slice Dr L.length dr) ∧ W.cell? ⟨w3.heap.size, 0, none⟩ = some (.slice Aa S1.length ca) ∧ W.cell? ⟨w3.heap.size, 1, none⟩ = some (.slice Da L1.length da) ∧ W.cell? ⟨w4.heap.size, 0, none⟩ = some (.slice Ab S2.length cb) ∧ W.cell? ⟨w4.heap.size, 1, none⟩ = some (.slice Db L2.length db) ∧ I W) → RelBx W w4.heap.size Ab cb S2 Db db L2 := fun h => ((hI _).1 (hIof h)).2.2.2
  replace hI := Aside0.mk @hI
  replace hIst := Aside0.mk @hIst
  replace hIal := Aside0.mk @hIal
  replace hIof := Aside0.mk @hIof
  replace hstep := Aside0.mk @hstep
  replace gB := Aside0.mk @gB
  replace gr := Aside0.mk @gr
  replace ga := Aside0.mk @ga
  replace gb := Aside0.mk @gb
  have HS0A := Aside0.mk (hIal.out ((hI.out _).2 ⟨HB5.out, Hr5.out, Ha5.out, Hb5.out⟩))
  have HSDA := Aside0.mk (hstep.out HS0A.out (below_drew (Below.refl _ _)))
  go_region_held3 (fun W => W.cell? ⟨w2.heap.size, 0, none⟩ = some (.slice Ar SC.length cr) ∧ W.cell? ⟨w2.heap.size, 1, none⟩ = some (.slice Dr L.length dr) ∧ W.cell? ⟨w3.heap.size, 0, none⟩ = some (.slice Aa S1.length ca) ∧ W.cell? ⟨w3.heap.size, 1, none⟩ = some (.slice Da L1.length da) ∧ W.cell? ⟨w4.heap.size, 0, none⟩ = some (.slice Ab S2.length cb) ∧ W.cell? ⟨w4.heap.size, 1, none⟩ = some (.slice Db L2.length db) ∧ I W)
    (first | with_reducible exact HS10A.out | with_reducible exact HS9A.out | with_reducible exact HS8A.out | with_reducible exact HS7A.out | with_reducible exact HS6A.out | with_reducible exact HS5A.out | with_reducible exact HS4A.out | with_reducible exact HS3A.out | with_reducible exact HS2A.out | with_reducible exact HS1A.out | with_reducible exact HSDA.out | with_reducible exact HS0A.out | with_reducible exact HSB.out | with_reducible exact hstep.out HS10A.out (below_alloc (Below.refl _ _) _) | with_reducible exact hstep.out HS9A.out (below_alloc (Below.refl _ _) _) | with_reducible exact hstep.out HS8A.out (below_alloc (Below.refl _ _) _) | with_reducible exact hstep.out HS7A.out (below_alloc (Below.refl _ _) _) | with_reducible exact hstep.out HS6A.out (below_alloc (Below.refl _ _) _) | with_reducible exact hstep.out HS5A.out (below_alloc (Below.refl _ _) _) | with_reducible exact hstep.out HS4A.out (below_alloc (Below.refl _ _) _) | with_reducible exact hstep.out HS3A.out (below_alloc (Below.refl _ _) _) | with_reducible exact hstep.out HS2A.out (below_alloc (Below.refl _ _) _) | with_reducible exact hstep.out HS1A.out (below_alloc (Below.refl _ _) _) | with_reducible exact hstep.out (by assumption) (below_alloc (Below.refl _ _) _) | with_reducible exact hstep.out (by assumption) (below_drew (Below.refl _ _)))
    (first
      | (have hgd := HS9A; clear hgd; go_at_call 17; refine (rightp_is (gb.out (by assumption)).rd hz2 true (decide_eq_true hp2)).mono ?_; rintro e v10 ⟨rfl, hb10⟩; have hS10 := hstep.out (by assumption) hb10; have HS10A := Aside0.mk hS10; clear hS10 hb10)
      | (have hgd := HS8A; clear hgd; go_at_call 17; refine (rightp_is (ga.out (by assumption)).rd hz1 true (decide_eq_true hp1)).mono ?_; rintro e v9 ⟨rfl, hb9⟩; have hS9 := hstep.out (by assumption) hb9; have HS9A := Aside0.mk hS9; clear hS9 hb9)
      | (have hgd := HS7A; clear hgd; go_at_call 24; refine (has_is (gr.out (by assumption)).rd hz HP.out.2.2 (Kd.C_below (hcut2 w HIN.out.2.2) (gB.out (by assumption))) bin HE.out.2.2.2).mono ?_; rintro e v8 ⟨rfl, hb8⟩; have hS8 := hstep.out (by assumption) hb8; have HS8A := Aside0.mk hS8; clear hS8 hb8)
      | (have hgd := HS6A; clear hgd; go_at_call 22; refine (arboristref01_Compare.calls 5000 Am cm l An cn l 0 _ Hm2.out Hm.out.1 Hn.out.2 Hn.out.1 HCM.out).mono ?_; rintro e v7 ⟨rfl, hd7⟩; have hb7 := hd7.below; clear hd7; have hS7 := hstep.out (by assumption) hb7; have HS7A := Aside0.mk hS7; clear hS7 hb7)
      | (have hgd := HS5A; clear hgd; go_at_call 31; refine (refvalues_is (gr.out (by assumption)).rd hz HP.out HE.out.2.2.1).mono ?_; rintro e v6 ⟨An, cn, rfl, hr6, hb6⟩; have Hn := Aside0.mk hr6; have hS6 := hstep.out (by assumption) hb6; have HS6A := Aside0.mk hS6; have Hm2 := Aside0.mk (Kd.C_below Hm.out.2 hb6); clear hS6 hb6 hr6)
      | (have hgd := HS4A; clear hgd; go_at_call 30; refine (values_is (gr.out (by assumption)).rd hz HE.out.2.2.1).mono ?_; rintro e v5 ⟨Am, cm, rfl, hr5, hb5⟩; have Hm := Aside0.mk hr5; have hS5 := hstep.out (by assumption) hb5; have HS5A := Aside0.mk hS5; clear hS5 hb5 hr5)
      | (have hgd := HS3A; clear hgd; go_at_call 18; refine (refsame_is (gb.out (by assumption)).rd hz2 Hx.out hz2 true (by simp)).mono ?_; rintro e v4 ⟨rfl, hb4⟩; have hS4 := hstep.out (by assumption) hb4; have HS4A := Aside0.mk hS4; clear hS4 hb4)
      | (have hgd := HS2A; clear hgd; go_at_call 29; refine (refselect_is (gr.out (by assumption)).rd hz HP.out HE.out.2.1).mono ?_; rintro e v3 ⟨Ax, cx, Dx, dx, rfl, hr3, hb3⟩; have Hx := Aside0.mk hr3; have hS3 := hstep.out (by assumption) hb3; have HS3A := Aside0.mk hS3; clear hS3 hb3 hr3)
      | (have hgd := HS1A; clear hgd; go_at_call 18; refine (refsame_is (ga.out (by assumption)).rd hz1 Hu.out hz1 true (by simp)).mono ?_; rintro e v2 ⟨rfl, hb2⟩; have hS2 := hstep.out (by assumption) hb2; have HS2A := Aside0.mk hS2; clear hS2 hb2)
      | (go_at_call 28; refine (refproject_is (gr.out (by assumption)).rd hz hL1000 HP.out.1.1 (Kd.C_below (hcut2 w HIN.out.2.2) (gB.out (by assumption))) hcut3 hV HE.out.1).mono ?_; rintro e v1 ⟨Au, cu, Du, du, rfl, hr1, hb1⟩; have Hu := Aside0.mk hr1; have hS1 := hstep.out (by assumption) hb1; have HS1A := Aside0.mk hS1; clear hS1 hb1 hr1))
  all_goals
    go_wp2
    go_ret
    exact ⟨rfl, gB.out HS10A.out⟩
end Go.Proofs.Ytlinhcgggfdlpaa.G

namespace Go.Proofs.Ytlinhcgggfdlpaa.relParts
open Go.ChangeShapes Go.WideShapes Go.ChangeAt Go.RowKit Go.Proofs.YtlinhcgggfdlpaaW.PrintWords Go.Proofs.YtlinhcgggfdlpaaW.PrintLast Go.Proofs.YtlinhcgggfdlpaaW.PrintMore
set_option linter.unusedVariables false
theorem own : ownKnob Try.prog.godebug = none := by kernel_rfl
theorem laidOut : laidOutB Try.prog = true := by kernel_rfl
set_option maxRecDepth 100000 in
theorem lifted (os : Os) (started : os.Started) (H : Type) (enc : TypeId × Value → H) :
    ReturnsInHanded {} Try.checked os 8 .any (Rows.relPartsSpec.pre6 enc Try.prog Try.f8 Rows.relPartsRow.domain false) (Rows.relPartsSpec.post enc Try.prog Try.f8 false true false false) := by
  refine returnsInHanded_of_change (C := Try.checked) own started (by kernel_rfl) Try.func8
    (ChangeSpec.witness6 (enc := enc) (C := Try.checked) false ⟨#[], #[.slice none 0 0, .slice none 0 0, .slice none 0 0, .int .i64 0, .int .i64 0], []⟩ 8 (by kernel_rfl) (by kernel_rfl) (by kernel_rfl) (by kernel_rfl)) ?_
  intro W base args ds gs before hval0 hW hcnd _
  have hval : ∀ (j : Nat) t v, Try.f8.params[j]? = some t → args[j]? = some v → Value.okWide Try.prog W .any base t v := hval0
  have hW' := hW
  obtain ⟨p, q, hA0, hV, rfl, hfz, hnd⟩ := hW
  have hA : DataW.TrodAll enc Try.prog W 0 (fun _ => true) true Try.f8.params.toList args.toList ds p := hA0
  rw [Try.params8] at hA hval
  obtain ⟨v0, vs0, d0, ds0, p0, q0, hargs, rfl, rfl, h0, r0⟩ := trodAll_cons hA
  obtain ⟨v1, vs1, d1, ds1, p1, q1, rfl, rfl, rfl, h1, r1⟩ := trodAll_cons r0
  obtain ⟨v2, vs2, d2, ds2, p2, q2, rfl, rfl, rfl, h2, r2⟩ := trodAll_cons r1
  obtain ⟨v3, vs3, d3, ds3, p3, q3, rfl, rfl, rfl, h3, r3⟩ := trodAll_cons r2
  obtain ⟨v4, vs4, d4, ds4, p4, q4, rfl, rfl, rfl, h4, r4⟩ := trodAll_cons r3
  obtain ⟨rfl, rfl, rfl⟩ := trodAll_nil r4
  obtain rfl : args = #[v0, v1, v2, v3, v4] := by cases args; simp_all
  obtain ⟨rfl, rfl⟩ := trodVars_none hV
  obtain ⟨a0, len0, cap0, rfl⟩ := okWide_slice Try.underlying22 (hval 0 22 v0 rfl rfl)
  obtain ⟨a1, len1, cap1, rfl⟩ := okWide_slice Try.underlying23 (hval 1 23 v1 rfl rfl)
  obtain ⟨a2, len2, cap2, rfl⟩ := okWide_slice Try.underlying22 (hval 2 22 v2 rfl rfl)
  have k0 := h0
  have lt0 : ∀ x ∈ p0, x.block < W.heap.size := by obtain ⟨m, hm⟩ := k0; exact DataW.trod_lt m _ _ _ hm
  have k1 := h1
  have lt1 : ∀ x ∈ p1, x.block < W.heap.size := by obtain ⟨m, hm⟩ := k1; exact DataW.trod_lt m _ _ _ hm
  have k2 := h2
  have lt2 : ∀ x ∈ p2, x.block < W.heap.size := by obtain ⟨m, hm⟩ := k2; exact DataW.trod_lt m _ _ _ hm
  obtain ⟨z0, e0, l0, c0⟩ : ∃ xs : List Int, xs.length = len0 ∧ len0 ≤ cap0 ∧ Kd.C G.KI W a0 xs.length xs := by obtain ⟨m, hm⟩ := h0; exact G.in_ints hm
  obtain ⟨z1, e1, l1, c1⟩ : ∃ L : List (List Int), L.length = len1 ∧ len1 ≤ cap1 ∧ Kd.C G.KL W a1 L.length L := by obtain ⟨m, hm⟩ := h1; exact G.in_rows hm
  obtain ⟨z2, e2, l2, c2⟩ : ∃ xs : List Int, xs.length = len2 ∧ len2 ≤ cap2 ∧ Kd.C G.KI W a2 xs.length xs := by obtain ⟨m, hm⟩ := h2; exact G.in_ints hm
  obtain ⟨a3, rfl, rfl, rfl, w3⟩ := open_int Try.underlying3 (hval 3 3 v3 rfl rfl) h3
  obtain ⟨a4, rfl, rfl, rfl, w4⟩ := open_int Try.underlying3 (hval 4 3 v4 rfl rfl) h4
  clear hA0 hval0
  subst e0 e1 e2
  refine (G.relparts_walk a0 cap0 z0 a1 cap1 z1 a2 cap2 z2 a3 a4 W c0 l0 c1 l1 c2 l2).mono fun e W' ⟨he, bel⟩ => ?_
  subst he
  exact ⟨_, rfl, _, _, _, [], _, [], hW', trodAll_mk1 (shut_bool Try.underlying4 _), (trodAll_cons_mk (Below.trod laidOut (by kernel_rfl) (of_decide_eq_true (by kernel_rfl)) k0 bel lt0) (trodAll_cons_mk (Below.trod laidOut (by kernel_rfl) (of_decide_eq_true (by kernel_rfl)) k1 bel lt1) (trodAll_cons_mk (Below.trod laidOut (by kernel_rfl) (of_decide_eq_true (by kernel_rfl)) k2 bel lt2) (trodAll_cons_mk (shut_int Try.underlying3 w3) (trodAll_cons_mk (shut_int Try.underlying3 w4) trodAll_mk0))))), rfl, bel.frame _, fun h => by cases h⟩
theorem over : Rows.relPartsRow.holds Try.pinned (OpenSpec.ofChange Rows.relPartsSpec) :=
  OpenClaim.holds_of_wide 8 Try.f8 rfl rfl rfl rfl rfl rfl rfl ⟨rfl, rfl, rfl, rfl, rfl⟩ rfl rfl rfl rfl rfl (by kernel_rfl) Try.func8 (by kernel_rfl)
    (of_decide_eq_true (by kernel_rfl)) (by unfold Func.isWrapper; first | (rw [if_pos (by decide +kernel)]; kernel_rfl) | (rw [if_neg (by decide +kernel)]; exact ⟨rfl, rfl⟩))
    (fun os started H enc _ => lifted os started H enc)
theorem proved : Rows.RelPartsSaid := over
#print axioms proved
end Go.Proofs.Ytlinhcgggfdlpaa.relParts
