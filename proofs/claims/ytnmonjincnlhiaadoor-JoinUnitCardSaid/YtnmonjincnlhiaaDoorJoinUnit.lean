/- Proved: for every input the law arboristlaw03.JoinUnit returns true and its arguments read as they did; what the program's tables hold at the start is tied to the program's text. No condition. -/
import Derived.Test.YtnmonjincnlhiaaDoorRows
import Derived.Test.YtnmonjincnlhiaaDoorCards
import Derived.Test.YtnmonjincnlhiaaDoorTie
import Derived.Test.YtnmonjincnlhiaaDoorInPart
import Derived.Deep.Matrix
import Derived.ProofKit
import Derived.OpenShut
import Derived.WalkKit
import Derived.ShutString
import Derived.ChangeOld
import Derived.Below
import Derived.SevenTiedAt
import Derived.Stop.Joined
import Derived.Deep.DeepCutAuto
set_option linter.unusedVariables false
set_option linter.unusedSimpArgs false
namespace Go.Proofs.YtnmonjincnlhiaaDoor.G
open Go.RowKit Go.Proofs.YtnmonjincnlhiaaDoorW.PrintWords Go.Proofs.YtnmonjincnlhiaaDoorW.PrintLast Go.Proofs.YtnmonjincnlhiaaDoorW.PrintMore Go.Proofs.YtnmonjincnlhiaaDoor.PRefs
attribute [local go_sem] min2_mn min_two

set_option maxHeartbeats 4000000 in
set_option maxRecDepth 100000 in
theorem joinunit_walk (A0 : Option Addr) (c0 : Nat) (sx : List Int) (B0 : Option Addr) (d0 : Nat) (rx : List (List Int)) (w : World) (hr0 : RelRd w A0 c0 sx B0 d0 rx) (htab : Tab w) :
    Calls Tryd.prog 9 #[.agg #[.slice A0 sx.length c0, .slice B0 rx.length d0]] w fun e w' => e = .returned (.bool true) ∧ Below w.heap.size w w' := by
  have HT := Aside0.mk htab
  clear htab
  obtain ⟨W0, hW0⟩ : ∃ W0, (w.alloc (.cells #[.slice A0 sx.length c0, .slice B0 rx.length d0] 25)) = W0 := ⟨_, rfl⟩
  have hbe : Below w.heap.size w W0 := by rw [← hW0]; exact below_alloc (Below.refl _ _) _
  have HB1 := Aside0.mk hbe
  have hk0 : W0.heap[w.heap.size]? = some (.cells #[.slice A0 sx.length c0, .slice B0 rx.length d0] 25 (0, 0)) := by
    rw [← hW0]
    have h0 := heap_alloc_new w (.cells #[.slice A0 sx.length c0, .slice B0 rx.length d0] 25)
    try simp only [World.size_alloc] at h0
    exact h0
  have Hpx1 := Aside0.mk (PtBx.mk hk0 (hr0.step hbe))
  have qpx0_1 := blk2_c0 hk0
  have qpx1_1 := blk2_c1 hk0
  clear hbe hk0 hr0
  have hSx := sm_small sx rx
  have HFx := Aside0.mk (Small3_f sx rx 4000 (Nat.le_refl _))
  generalize smallRows3 (smallS3 sx).length rx = X at *
  generalize smallS3 sx = SA at *
  have hRT := hSx.rt
  have hlX := hSx.l
  have hsA := hSx.s
  have HE := Aside0.mk (And.intro (uni_nil hRT.r.1.1) (And.intro (join_unit hRT.r) (And.intro (nil_uni hRT.r.1.1) (And.intro (unit_join hRT.r) (join_none SA X [])))))
  have HRT := Aside0.mk hRT
  have hrn : Rt [] [] := ⟨by decide, by simp, by simp, by simp [InR]⟩
  have HRN := Aside0.mk hrn
  clear hSx hRT hrn
  go_enter Tryd.func9, Tryd.ntmps9
  go_upto_region 3 with (first
    | (have hgd := HB2; clear hgd; go_at_call 12; refine (small3_is _ _ sx _ _ rx _ Hpx2.out.rd.row Hpx2.out.rd.cap Hpx2.out.rd.rows Hpx2.out.rd.cap2 HFx.out).mono ?_; rintro e w3 ⟨Aa, ca, Da, da, rfl, hr3, hb3⟩; have hx3 := below_box hb3 (.cells #[.slice Aa SA.length ca, .slice Da X.length da] 27); have HB3 := Aside0.mk (below_then HB2.out HB2.out.size hx3); have Ha3 := Aside0.mk (RelBx.new hr3); have qa0_3 := blk2_c0 Ha3.out.blk; have qa1_3 := blk2_c1 Ha3.out.blk; clear hb3 hr3 hx3 Hpx2 qpx0_2 qpx1_2)
    | (have hgd := HB1; clear hgd; go_at_call 11; refine (shown3_any _ (HT.out.step HB1.out)).mono ?_; rintro e w2 ⟨rfl, hb2⟩; have HB2 := Aside0.mk (below_then HB1.out HB1.out.size hb2); have Hpx2 := Aside0.mk (Hpx1.out.step hb2); have qpx0_2 := blk2_c0 Hpx2.out.blk; have qpx1_2 := blk2_c1 Hpx2.out.blk; clear hb2 Hpx1 qpx0_1 qpx1_1))
  clear qa0_3 qa1_3
  generalize w3.alloc (.cells #[.slice Aa SA.length ca, .slice Da X.length da] 27) = WA at HB3 Ha3 ⊢
  generalize w3.heap.size = ga at Ha3 ⊢
  go_cut [5, 6] (fun s5 s6 wx => ∃ (g : Nat) (A : Option Addr) (c : Nat) (D : Option Addr) (d : Nat), s5 = .pointer (some ⟨g, 0, none⟩) ∧ s6 = .int .i64 0 ∧ Aside0 (RelBx wx g A c SA D d X ∧ Below WA.heap.size WA wx))
  case first =>
    have HST := Aside0.mk (show ∀ {W W1 : World}, (W.cell? ⟨ga, 0, none⟩ = some (.slice Aa SA.length ca) ∧ W.cell? ⟨ga, 1, none⟩ = some (.slice Da X.length da) ∧ Below WA.heap.size WA W) → Below W.heap.size W W1 → (W1.cell? ⟨ga, 0, none⟩ = some (.slice Aa SA.length ca) ∧ W1.cell? ⟨ga, 1, none⟩ = some (.slice Da X.length da) ∧ Below WA.heap.size WA W1) from fun {W W1} h hb => ⟨(hb.cell (World.block_lt_of_cell? W _ h.1)).trans h.1, (hb.cell (World.block_lt_of_cell? W _ h.2.1)).trans h.2.1, below_then h.2.2 h.2.2.size hb⟩)
    have HSE := Aside0.mk (show ∀ {W : World} {g : Nat} (i : Nat) (u : Value), (W.cell? ⟨ga, 0, none⟩ = some (.slice Aa SA.length ca) ∧ W.cell? ⟨ga, 1, none⟩ = some (.slice Da X.length da) ∧ Below WA.heap.size WA W) → WA.heap.size ≤ g → ((W.setCell ⟨g, i, none⟩ u).cell? ⟨ga, 0, none⟩ = some (.slice Aa SA.length ca) ∧ (W.setCell ⟨g, i, none⟩ u).cell? ⟨ga, 1, none⟩ = some (.slice Da X.length da) ∧ Below WA.heap.size WA (W.setCell ⟨g, i, none⟩ u)) from fun {W g} i u h hg => ⟨cell_set_ne h.1 (by have hl := (Array.getElem?_eq_some_iff.1 Ha3.out.blk).1; show (ga : Nat) ≠ g; omega) i u, cell_set_ne h.2.1 (by have hl := (Array.getElem?_eq_some_iff.1 Ha3.out.blk).1; show (ga : Nat) ≠ g; omega) i u, h.2.2.setCell (p := ⟨g, i, none⟩) hg u⟩)
    have HSB := Aside0.mk (show ∀ {W : World}, (W.cell? ⟨ga, 0, none⟩ = some (.slice Aa SA.length ca) ∧ W.cell? ⟨ga, 1, none⟩ = some (.slice Da X.length da) ∧ Below WA.heap.size WA W) → Below WA.heap.size WA W from fun {W} h => h.2.2)
    have HS0A := Aside0.mk (show (WA.cell? ⟨ga, 0, none⟩ = some (.slice Aa SA.length ca) ∧ WA.cell? ⟨ga, 1, none⟩ = some (.slice Da X.length da) ∧ Below WA.heap.size WA WA) from ⟨blk2_c0 Ha3.out.blk, blk2_c1 Ha3.out.blk, Below.refl _ _⟩)
    have HSDA := Aside0.mk (HST.out HS0A.out (below_drew (Below.refl _ _)))
    have qq0 := HS0A.out.1
    have qq1 := HS0A.out.2.1
    go_region_held3 (fun W => W.cell? ⟨ga, 0, none⟩ = some (.slice Aa SA.length ca) ∧ W.cell? ⟨ga, 1, none⟩ = some (.slice Da X.length da) ∧ Below WA.heap.size WA W)
      (first | with_reducible exact HS5A.out | with_reducible exact HS4A.out | with_reducible exact HSDA.out | with_reducible exact HS0A.out | with_reducible exact HST.out HS5A.out (below_alloc (Below.refl _ _) _) | with_reducible exact HST.out HS4A.out (below_alloc (Below.refl _ _) _) | with_reducible exact HST.out (by assumption) (below_alloc (Below.refl _ _) _) | with_reducible exact HST.out (by assumption) (below_drew (Below.refl _ _)) | with_reducible exact HSE.out _ _ (HSE.out _ _ HS5A.out (by first | assumption | exact Nat.le_refl _)) (by first | assumption | exact Nat.le_refl _))
      (first
        | (have hgd := HS4A; clear hgd; go_at_call 14; refine (join_m (Ha3.out.rd.step (HSB.out (by assumption))) HRT.out (HU.out.step (by first | exact Below.refl _ _ | exact below_drew (Below.refl _ _) | exact below_alloc (Below.refl _ _) _)) rt_unit 100 (HT.out.step (below_then HB3.out HB3.out.size (HSB.out (by assumption)))) (r := (SA, X)) (by rw [joinAt, HE.out.2.1, HE.out.1, if_pos (by omega)]) (n := 0) (by rw [joinEr, HE.out.2.1, if_pos (by omega)])).mono ?_; rintro e w5 ⟨A3, c3, D3, d3, rfl, hm3, hb5⟩; have hS5 := HST.out (by assumption) hb5; have HS5A := Aside0.mk hS5; have HJ := Aside0.mk (And.intro hm3 hb5); have hjb := hb5.size; have hg5 : WA.heap.size ≤ w5.heap.size := (HSB.out hS5).size; (first | (have hbk := (hb5.block _ (Array.getElem?_eq_some_iff.1 hbk).1).trans hbk) | (have hbk := (hb5.block w4.heap.size (by simp)).trans (heap_alloc_new w4 (.cells #[.slice none 0 0, .slice none 0 0] 27))) | skip); try (have p0 := blk2_c0 hbk; have p1 := blk_fr (i := 0) hbk; have hs0 := blk2_s0 hbk (.slice A3 SA.length c3); have p2 := blk2_c1 hs0; have p3 := blk_fr (i := 1) hs0; have HP := Aside0.mk (And.intro (box_put hbk hm3 (by first | exact hbl | (simp; done))) (HSB.out (HSE.out 1 (.slice D3 X.length d3) (HSE.out 0 (.slice A3 SA.length c3) hS5 (at_le hbk (by first | exact Nat.le_refl _ | assumption))) (at_le hbk (by first | exact Nat.le_refl _ | assumption))))); clear hs0 hbk); clear hm3 hb5; clear hS5)
        | (go_at_call 23; refine (unit_rt _).mono ?_; rintro e w4 ⟨Au, cu, Du, du, rfl, hu, hb4⟩; have hS4 := HST.out (by assumption) hb4; have HS4A := Aside0.mk hS4; have HU := Aside0.mk hu; have hg4 : WA.heap.size ≤ w4.heap.size := (HSB.out hS4).size; try (have hbk := (hb4.block WA.heap.size (by simp)).trans (heap_alloc_new WA.drew (.cells #[.slice none 0 0, .slice none 0 0] 27)); have hbl := (Array.getElem?_eq_some_iff.1 hbk).1); clear hu hb4; clear hS4))
    all_goals
      first
      | (have hgd := HP; clear hgd; (try (go_wp2_with fail)); go_meet; case rel => exact ⟨_, _, _, _, _, rfl, rfl, ⟨HP.out.1, HP.out.2⟩⟩)
      | ((try (go_wp2_with fail)); go_meet; case rel => exact ⟨w5.heap.size, _, _, _, _, rfl, rfl, ⟨RelBx.new (RelM.rd' HJ.out.1), below_alloc (HSB.out HS5A.out) _⟩⟩)
  case rest =>
    obtain ⟨gr, Ar, cr, Dr, dr, rfl, rfl, HR⟩ := hcut
    have HB5 := Aside0.mk (below_then HB3.out HB3.out.size HR.out.2)
    have Ha5 := Aside0.mk (Ha3.out.step HR.out.2)
    have Hr5 := Aside0.mk HR.out.1
    clear HR HB3 Ha3
    rename World => WB
    go_upto_region 4 with fail
    go_cut [7, 8] (fun s5 s6 wx => ∃ (g : Nat) (A : Option Addr) (c : Nat) (D : Option Addr) (d : Nat), s5 = .pointer (some ⟨g, 0, none⟩) ∧ s6 = .int .i64 0 ∧ Aside0 (RelBx wx g A c SA D d X ∧ Below WB.heap.size WB wx))
    case first =>
      have HST := Aside0.mk (show ∀ {W W1 : World}, (W.cell? ⟨ga, 0, none⟩ = some (.slice Aa SA.length ca) ∧ W.cell? ⟨ga, 1, none⟩ = some (.slice Da X.length da) ∧ Below WB.heap.size WB W) → Below W.heap.size W W1 → (W1.cell? ⟨ga, 0, none⟩ = some (.slice Aa SA.length ca) ∧ W1.cell? ⟨ga, 1, none⟩ = some (.slice Da X.length da) ∧ Below WB.heap.size WB W1) from fun {W W1} h hb => ⟨(hb.cell (World.block_lt_of_cell? W _ h.1)).trans h.1, (hb.cell (World.block_lt_of_cell? W _ h.2.1)).trans h.2.1, below_then h.2.2 h.2.2.size hb⟩)
      have HSE := Aside0.mk (show ∀ {W : World} {g : Nat} (i : Nat) (u : Value), (W.cell? ⟨ga, 0, none⟩ = some (.slice Aa SA.length ca) ∧ W.cell? ⟨ga, 1, none⟩ = some (.slice Da X.length da) ∧ Below WB.heap.size WB W) → WB.heap.size ≤ g → ((W.setCell ⟨g, i, none⟩ u).cell? ⟨ga, 0, none⟩ = some (.slice Aa SA.length ca) ∧ (W.setCell ⟨g, i, none⟩ u).cell? ⟨ga, 1, none⟩ = some (.slice Da X.length da) ∧ Below WB.heap.size WB (W.setCell ⟨g, i, none⟩ u)) from fun {W g} i u h hg => ⟨cell_set_ne h.1 (by have hl := (Array.getElem?_eq_some_iff.1 Ha5.out.blk).1; show (ga : Nat) ≠ g; omega) i u, cell_set_ne h.2.1 (by have hl := (Array.getElem?_eq_some_iff.1 Ha5.out.blk).1; show (ga : Nat) ≠ g; omega) i u, h.2.2.setCell (p := ⟨g, i, none⟩) hg u⟩)
      have HSB := Aside0.mk (show ∀ {W : World}, (W.cell? ⟨ga, 0, none⟩ = some (.slice Aa SA.length ca) ∧ W.cell? ⟨ga, 1, none⟩ = some (.slice Da X.length da) ∧ Below WB.heap.size WB W) → Below WB.heap.size WB W from fun {W} h => h.2.2)
      have HS0A := Aside0.mk (show (WB.cell? ⟨ga, 0, none⟩ = some (.slice Aa SA.length ca) ∧ WB.cell? ⟨ga, 1, none⟩ = some (.slice Da X.length da) ∧ Below WB.heap.size WB WB) from ⟨blk2_c0 Ha5.out.blk, blk2_c1 Ha5.out.blk, Below.refl _ _⟩)
      have HSDA := Aside0.mk (HST.out HS0A.out (below_drew (Below.refl _ _)))
      have qq0 := HS0A.out.1
      have qq1 := HS0A.out.2.1
      go_region_held3 (fun W => W.cell? ⟨ga, 0, none⟩ = some (.slice Aa SA.length ca) ∧ W.cell? ⟨ga, 1, none⟩ = some (.slice Da X.length da) ∧ Below WB.heap.size WB W)
        (first | with_reducible exact HS7A.out | with_reducible exact HS6A.out | with_reducible exact HSDA.out | with_reducible exact HS0A.out | with_reducible exact HST.out HS7A.out (below_alloc (Below.refl _ _) _) | with_reducible exact HST.out HS6A.out (below_alloc (Below.refl _ _) _) | with_reducible exact HST.out (by assumption) (below_alloc (Below.refl _ _) _) | with_reducible exact HST.out (by assumption) (below_drew (Below.refl _ _)) | with_reducible exact HSE.out _ _ (HSE.out _ _ HS7A.out (by first | assumption | exact Nat.le_refl _)) (by first | assumption | exact Nat.le_refl _))
        (first
          | (have hgd := HS6A; clear hgd; go_at_call 14; refine (join_m (HU.out.step (by first | exact Below.refl _ _ | exact below_drew (Below.refl _ _) | exact below_alloc (Below.refl _ _) _)) rt_unit (Ha5.out.rd.step (HSB.out (by assumption))) HRT.out 100 (HT.out.step (below_then HB5.out HB5.out.size (HSB.out (by assumption)))) (r := (SA, X)) (by rw [joinAt, HE.out.2.2.2.1, HE.out.2.2.1, if_pos (by omega)]) (n := 0) (by rw [joinEr, HE.out.2.2.2.1, if_pos (by omega)])).mono ?_; rintro e w7 ⟨A3, c3, D3, d3, rfl, hm3, hb7⟩; have hS7 := HST.out (by assumption) hb7; have HS7A := Aside0.mk hS7; have HJ := Aside0.mk (And.intro hm3 hb7); have hjb := hb7.size; have hg7 : WB.heap.size ≤ w7.heap.size := (HSB.out hS7).size; (first | (have hbk := (hb7.block _ (Array.getElem?_eq_some_iff.1 hbk).1).trans hbk) | (have hbk := (hb7.block w6.heap.size (by simp)).trans (heap_alloc_new w6 (.cells #[.slice none 0 0, .slice none 0 0] 27))) | skip); try (have p0 := blk2_c0 hbk; have p1 := blk_fr (i := 0) hbk; have hs0 := blk2_s0 hbk (.slice A3 SA.length c3); have p2 := blk2_c1 hs0; have p3 := blk_fr (i := 1) hs0; have HP := Aside0.mk (And.intro (box_put hbk hm3 (by first | exact hbl | (simp; done))) (HSB.out (HSE.out 1 (.slice D3 X.length d3) (HSE.out 0 (.slice A3 SA.length c3) hS7 (at_le hbk (by first | exact Nat.le_refl _ | assumption))) (at_le hbk (by first | exact Nat.le_refl _ | assumption))))); clear hs0 hbk); clear hm3 hb7; clear hS7)
          | (go_at_call 23; refine (unit_rt _).mono ?_; rintro e w6 ⟨Au, cu, Du, du, rfl, hu, hb6⟩; have hS6 := HST.out (by assumption) hb6; have HS6A := Aside0.mk hS6; have HU := Aside0.mk hu; have hg6 : WB.heap.size ≤ w6.heap.size := (HSB.out hS6).size; try (have hbk := (hb6.block WB.heap.size (by simp)).trans (heap_alloc_new WB.drew (.cells #[.slice none 0 0, .slice none 0 0] 27)); have hbl := (Array.getElem?_eq_some_iff.1 hbk).1); clear hu hb6; clear hS6))
      all_goals
        first
        | (have hgd := HP; clear hgd; (try (go_wp2_with fail)); go_meet; case rel => exact ⟨_, _, _, _, _, rfl, rfl, ⟨HP.out.1, HP.out.2⟩⟩)
        | ((try (go_wp2_with fail)); go_meet; case rel => exact ⟨w7.heap.size, _, _, _, _, rfl, rfl, ⟨RelBx.new (RelM.rd' HJ.out.1), below_alloc (HSB.out HS7A.out) _⟩⟩)
    case rest =>
      obtain ⟨gs, As, cs, Ds, ds, rfl, rfl, HR⟩ := hcut
      have HB7 := Aside0.mk (below_then HB5.out HB5.out.size HR.out.2)
      have Ha7 := Aside0.mk (Ha5.out.step HR.out.2)
      have Hr7 := Aside0.mk (Hr5.out.step HR.out.2)
      have Hs7 := Aside0.mk HR.out.1
      clear HR HB5 Ha5 Hr5
      rename World => WC
      have qa0_7 := blk2_c0 Ha7.out.blk
      have qa1_7 := blk2_c1 Ha7.out.blk
      go_upto_region 7 with (first
        | (have hgd := HB8; clear hgd; go_at_call 20; refine (all_ok (c0 := 0) (l := []) (Kd.C_nil k27 _) (by simp) (fun r hr => by cases hr) (by omega) (HT.out.step HB8.out) (U := []) (J := [[]]) rfl).mono ?_; rintro e w9 ⟨Au, cu, Du, du, rfl, hr9, hb9⟩; have hx9 := below_box hb9 (.cells #[.slice Au 0 cu, .slice Du 1 du] 27); have HB9 := Aside0.mk (below_then HB8.out HB8.out.size hx9); have Ha9 := Aside0.mk (Ha8.out.step hx9); have Hr9 := Aside0.mk (Hr8.out.step hx9); have Hs9 := Aside0.mk (Hs8.out.step hx9); have Hn9 := Aside0.mk (Hn8.out.step hx9); have Hu9 := Aside0.mk (RelBx.new hr9); have qa0_9 := blk2_c0 Ha9.out.blk; have qa1_9 := blk2_c1 Ha9.out.blk; have qr0_9 := blk2_c0 Hr9.out.blk; have qr1_9 := blk2_c1 Hr9.out.blk; have qs0_9 := blk2_c0 Hs9.out.blk; have qs1_9 := blk2_c1 Hs9.out.blk; have qn0_9 := blk2_c0 Hn9.out.blk; have qn1_9 : _ = some (Value.slice Dn 0 dn) := blk2_c1 Hn9.out.blk; have qu0_9 : _ = some (Value.slice Au 0 cu) := blk2_c0 Hu9.out.blk; have qu1_9 : _ = some (Value.slice Du 1 du) := blk2_c1 Hu9.out.blk; clear hb9 hr9 hx9 Ha8 Hr8 Hs8 Hn8 qa0_8 qa1_8 qr0_8 qr1_8 qs0_8 qs1_8 qn0_8 qn1_8)
        | (have hgd := HB7; clear hgd; go_at_call 14; refine (join_ok Ha7.out.rd HRT.out (RelRd.mk (Kd.C_nil KI _) (Nat.le_refl 0) (Kd.C_nil KL _) (Nat.le_refl 0)) HRN.out (HT.out.step HB7.out) HE.out.1 HE.out.2.2.2.2 (by simp)).mono ?_; rintro e w8 ⟨An, cn, Dn, dn, rfl, hr8, hb8⟩; have hx8 := below_box hb8 (.cells #[.slice An SA.length cn, .slice Dn 0 dn] 27); have HB8 := Aside0.mk (below_then HB7.out HB7.out.size hx8); have Ha8 := Aside0.mk (Ha7.out.step hx8); have Hr8 := Aside0.mk (Hr7.out.step hx8); have Hs8 := Aside0.mk (Hs7.out.step hx8); have Hn8 := Aside0.mk (RelBx.new hr8); have qa0_8 := blk2_c0 Ha8.out.blk; have qa1_8 := blk2_c1 Ha8.out.blk; have qr0_8 := blk2_c0 Hr8.out.blk; have qr1_8 := blk2_c1 Hr8.out.blk; have qs0_8 := blk2_c0 Hs8.out.blk; have qs1_8 := blk2_c1 Hs8.out.blk; have qn0_8 := blk2_c0 Hn8.out.blk; have qn1_8 : _ = some (Value.slice Dn 0 dn) := blk2_c1 Hn8.out.blk; clear hb8 hr8 hx8 Ha7 Hr7 Hs7 qa0_7 qa1_7))
      clear qa0_9 qa1_9 qr0_9 qr1_9 qs0_9 qs1_9 qn0_9 qn1_9 qu0_9 qu1_9
      generalize w9.alloc (.cells #[.slice Au 0 cu, .slice Du 1 du] 27) = WD at HB9 Ha9 Hr9 Hs9 Hn9 Hu9 ⊢
      generalize w9.heap.size = gu at Hu9 ⊢
      generalize w8.heap.size = gn at Hn9 ⊢
      have HST := Aside0.mk (show ∀ {W W1 : World}, (W.cell? ⟨ga, 0, none⟩ = some (.slice Aa SA.length ca) ∧ W.cell? ⟨ga, 1, none⟩ = some (.slice Da X.length da) ∧ W.cell? ⟨gr, 0, none⟩ = some (.slice Ar SA.length cr) ∧ W.cell? ⟨gr, 1, none⟩ = some (.slice Dr X.length dr) ∧ W.cell? ⟨gs, 0, none⟩ = some (.slice As SA.length cs) ∧ W.cell? ⟨gs, 1, none⟩ = some (.slice Ds X.length ds) ∧ W.cell? ⟨gn, 1, none⟩ = some (.slice Dn 0 dn) ∧ W.cell? ⟨gu, 0, none⟩ = some (.slice Au 0 cu) ∧ W.cell? ⟨gu, 1, none⟩ = some (.slice Du 1 du) ∧ Below WD.heap.size WD W) → Below W.heap.size W W1 → (W1.cell? ⟨ga, 0, none⟩ = some (.slice Aa SA.length ca) ∧ W1.cell? ⟨ga, 1, none⟩ = some (.slice Da X.length da) ∧ W1.cell? ⟨gr, 0, none⟩ = some (.slice Ar SA.length cr) ∧ W1.cell? ⟨gr, 1, none⟩ = some (.slice Dr X.length dr) ∧ W1.cell? ⟨gs, 0, none⟩ = some (.slice As SA.length cs) ∧ W1.cell? ⟨gs, 1, none⟩ = some (.slice Ds X.length ds) ∧ W1.cell? ⟨gn, 1, none⟩ = some (.slice Dn 0 dn) ∧ W1.cell? ⟨gu, 0, none⟩ = some (.slice Au 0 cu) ∧ W1.cell? ⟨gu, 1, none⟩ = some (.slice Du 1 du) ∧ Below WD.heap.size WD W1) from fun {W W1} h hb => ⟨(hb.cell (World.block_lt_of_cell? W _ h.1)).trans h.1, (hb.cell (World.block_lt_of_cell? W _ h.2.1)).trans h.2.1, (hb.cell (World.block_lt_of_cell? W _ h.2.2.1)).trans h.2.2.1, (hb.cell (World.block_lt_of_cell? W _ h.2.2.2.1)).trans h.2.2.2.1, (hb.cell (World.block_lt_of_cell? W _ h.2.2.2.2.1)).trans h.2.2.2.2.1, (hb.cell (World.block_lt_of_cell? W _ h.2.2.2.2.2.1)).trans h.2.2.2.2.2.1, (hb.cell (World.block_lt_of_cell? W _ h.2.2.2.2.2.2.1)).trans h.2.2.2.2.2.2.1, (hb.cell (World.block_lt_of_cell? W _ h.2.2.2.2.2.2.2.1)).trans h.2.2.2.2.2.2.2.1, (hb.cell (World.block_lt_of_cell? W _ h.2.2.2.2.2.2.2.2.1)).trans h.2.2.2.2.2.2.2.2.1, below_then h.2.2.2.2.2.2.2.2.2 h.2.2.2.2.2.2.2.2.2.size hb⟩)
      have HSE := Aside0.mk (show ∀ {W : World} {g : Nat} (i : Nat) (u : Value), (W.cell? ⟨ga, 0, none⟩ = some (.slice Aa SA.length ca) ∧ W.cell? ⟨ga, 1, none⟩ = some (.slice Da X.length da) ∧ W.cell? ⟨gr, 0, none⟩ = some (.slice Ar SA.length cr) ∧ W.cell? ⟨gr, 1, none⟩ = some (.slice Dr X.length dr) ∧ W.cell? ⟨gs, 0, none⟩ = some (.slice As SA.length cs) ∧ W.cell? ⟨gs, 1, none⟩ = some (.slice Ds X.length ds) ∧ W.cell? ⟨gn, 1, none⟩ = some (.slice Dn 0 dn) ∧ W.cell? ⟨gu, 0, none⟩ = some (.slice Au 0 cu) ∧ W.cell? ⟨gu, 1, none⟩ = some (.slice Du 1 du) ∧ Below WD.heap.size WD W) → WD.heap.size ≤ g → ((W.setCell ⟨g, i, none⟩ u).cell? ⟨ga, 0, none⟩ = some (.slice Aa SA.length ca) ∧ (W.setCell ⟨g, i, none⟩ u).cell? ⟨ga, 1, none⟩ = some (.slice Da X.length da) ∧ (W.setCell ⟨g, i, none⟩ u).cell? ⟨gr, 0, none⟩ = some (.slice Ar SA.length cr) ∧ (W.setCell ⟨g, i, none⟩ u).cell? ⟨gr, 1, none⟩ = some (.slice Dr X.length dr) ∧ (W.setCell ⟨g, i, none⟩ u).cell? ⟨gs, 0, none⟩ = some (.slice As SA.length cs) ∧ (W.setCell ⟨g, i, none⟩ u).cell? ⟨gs, 1, none⟩ = some (.slice Ds X.length ds) ∧ (W.setCell ⟨g, i, none⟩ u).cell? ⟨gn, 1, none⟩ = some (.slice Dn 0 dn) ∧ (W.setCell ⟨g, i, none⟩ u).cell? ⟨gu, 0, none⟩ = some (.slice Au 0 cu) ∧ (W.setCell ⟨g, i, none⟩ u).cell? ⟨gu, 1, none⟩ = some (.slice Du 1 du) ∧ Below WD.heap.size WD (W.setCell ⟨g, i, none⟩ u)) from fun {W g} i u h hg => ⟨cell_set_ne h.1 (by have hl := (Array.getElem?_eq_some_iff.1 Ha9.out.blk).1; show (ga : Nat) ≠ g; omega) i u, cell_set_ne h.2.1 (by have hl := (Array.getElem?_eq_some_iff.1 Ha9.out.blk).1; show (ga : Nat) ≠ g; omega) i u, cell_set_ne h.2.2.1 (by have hl := (Array.getElem?_eq_some_iff.1 Hr9.out.blk).1; show (gr : Nat) ≠ g; omega) i u, cell_set_ne h.2.2.2.1 (by have hl := (Array.getElem?_eq_some_iff.1 Hr9.out.blk).1; show (gr : Nat) ≠ g; omega) i u, cell_set_ne h.2.2.2.2.1 (by have hl := (Array.getElem?_eq_some_iff.1 Hs9.out.blk).1; show (gs : Nat) ≠ g; omega) i u, cell_set_ne h.2.2.2.2.2.1 (by have hl := (Array.getElem?_eq_some_iff.1 Hs9.out.blk).1; show (gs : Nat) ≠ g; omega) i u, cell_set_ne h.2.2.2.2.2.2.1 (by have hl := (Array.getElem?_eq_some_iff.1 Hn9.out.blk).1; show (gn : Nat) ≠ g; omega) i u, cell_set_ne h.2.2.2.2.2.2.2.1 (by have hl := (Array.getElem?_eq_some_iff.1 Hu9.out.blk).1; show (gu : Nat) ≠ g; omega) i u, cell_set_ne h.2.2.2.2.2.2.2.2.1 (by have hl := (Array.getElem?_eq_some_iff.1 Hu9.out.blk).1; show (gu : Nat) ≠ g; omega) i u, h.2.2.2.2.2.2.2.2.2.setCell (p := ⟨g, i, none⟩) hg u⟩)
      have HSB := Aside0.mk (show ∀ {W : World}, (W.cell? ⟨ga, 0, none⟩ = some (.slice Aa SA.length ca) ∧ W.cell? ⟨ga, 1, none⟩ = some (.slice Da X.length da) ∧ W.cell? ⟨gr, 0, none⟩ = some (.slice Ar SA.length cr) ∧ W.cell? ⟨gr, 1, none⟩ = some (.slice Dr X.length dr) ∧ W.cell? ⟨gs, 0, none⟩ = some (.slice As SA.length cs) ∧ W.cell? ⟨gs, 1, none⟩ = some (.slice Ds X.length ds) ∧ W.cell? ⟨gn, 1, none⟩ = some (.slice Dn 0 dn) ∧ W.cell? ⟨gu, 0, none⟩ = some (.slice Au 0 cu) ∧ W.cell? ⟨gu, 1, none⟩ = some (.slice Du 1 du) ∧ Below WD.heap.size WD W) → Below WD.heap.size WD W from fun {W} h => h.2.2.2.2.2.2.2.2.2)
      have HS0A := Aside0.mk (show (WD.cell? ⟨ga, 0, none⟩ = some (.slice Aa SA.length ca) ∧ WD.cell? ⟨ga, 1, none⟩ = some (.slice Da X.length da) ∧ WD.cell? ⟨gr, 0, none⟩ = some (.slice Ar SA.length cr) ∧ WD.cell? ⟨gr, 1, none⟩ = some (.slice Dr X.length dr) ∧ WD.cell? ⟨gs, 0, none⟩ = some (.slice As SA.length cs) ∧ WD.cell? ⟨gs, 1, none⟩ = some (.slice Ds X.length ds) ∧ WD.cell? ⟨gn, 1, none⟩ = some (.slice Dn 0 dn) ∧ WD.cell? ⟨gu, 0, none⟩ = some (.slice Au 0 cu) ∧ WD.cell? ⟨gu, 1, none⟩ = some (.slice Du 1 du) ∧ Below WD.heap.size WD WD) from ⟨blk2_c0 Ha9.out.blk, blk2_c1 Ha9.out.blk, blk2_c0 Hr9.out.blk, blk2_c1 Hr9.out.blk, blk2_c0 Hs9.out.blk, blk2_c1 Hs9.out.blk, blk2_c1 Hn9.out.blk, blk2_c0 Hu9.out.blk, blk2_c1 Hu9.out.blk, Below.refl _ _⟩)
      have HSDA := Aside0.mk (HST.out HS0A.out (below_drew (Below.refl _ _)))
      have qq0 := HS0A.out.1
      have qq1 := HS0A.out.2.1
      have qq2 := HS0A.out.2.2.1
      have qq3 := HS0A.out.2.2.2.1
      have qq4 := HS0A.out.2.2.2.2.1
      have qq5 := HS0A.out.2.2.2.2.2.1
      have qq6 := HS0A.out.2.2.2.2.2.2.1
      have qq7 := HS0A.out.2.2.2.2.2.2.2.1
      have qq8 := HS0A.out.2.2.2.2.2.2.2.2.1
      go_region_held3 (fun W => W.cell? ⟨ga, 0, none⟩ = some (.slice Aa SA.length ca) ∧ W.cell? ⟨ga, 1, none⟩ = some (.slice Da X.length da) ∧ W.cell? ⟨gr, 0, none⟩ = some (.slice Ar SA.length cr) ∧ W.cell? ⟨gr, 1, none⟩ = some (.slice Dr X.length dr) ∧ W.cell? ⟨gs, 0, none⟩ = some (.slice As SA.length cs) ∧ W.cell? ⟨gs, 1, none⟩ = some (.slice Ds X.length ds) ∧ W.cell? ⟨gn, 1, none⟩ = some (.slice Dn 0 dn) ∧ W.cell? ⟨gu, 0, none⟩ = some (.slice Au 0 cu) ∧ W.cell? ⟨gu, 1, none⟩ = some (.slice Du 1 du) ∧ Below WD.heap.size WD W)
        (first | with_reducible exact HS13A.out | with_reducible exact HS12A.out | with_reducible exact HS11A.out | with_reducible exact HS10A.out | with_reducible exact HSDA.out | with_reducible exact HS0A.out | with_reducible exact HST.out HS13A.out (below_alloc (Below.refl _ _) _) | with_reducible exact HST.out HS12A.out (below_alloc (Below.refl _ _) _) | with_reducible exact HST.out HS11A.out (below_alloc (Below.refl _ _) _) | with_reducible exact HST.out HS10A.out (below_alloc (Below.refl _ _) _) | with_reducible exact HST.out (by assumption) (below_alloc (Below.refl _ _) _) | with_reducible exact HST.out (by assumption) (below_drew (Below.refl _ _)))
        (first
          | (have hgd := HS12A; clear hgd; go_at_call 15; refine (same_rt (Hu9.out.rd.step (HSB.out (by assumption))) (by simp) (HV.out.step (by first | exact Below.refl _ _ | exact below_drew (Below.refl _ _))) true (by simp)).mono ?_; rintro e w13 ⟨rfl, hb13⟩; have hS13 := HST.out (by assumption) hb13; have HS13A := Aside0.mk hS13; clear hb13; clear hS13)
          | (have hgd := HS11A; clear hgd; go_at_call 23; refine (unit_rt _).mono ?_; rintro e w12 ⟨Av, cv, Dv, dv, rfl, hv, hb12⟩; have hS12 := HST.out (by assumption) hb12; have HS12A := Aside0.mk hS12; have HV := Aside0.mk hv; clear hv hb12; clear hS12)
          | (have hgd := HS10A; clear hgd; go_at_call 15; refine (same_rt (Hs9.out.rd.step (HSB.out (by assumption))) (by omega) (Ha9.out.rd.step (HSB.out (by assumption))) true (by simp)).mono ?_; rintro e w11 ⟨rfl, hb11⟩; have hS11 := HST.out (by assumption) hb11; have HS11A := Aside0.mk hS11; clear hb11; clear hS11)
          | (go_at_call 15; refine (same_rt (Hr9.out.rd.step (HSB.out (by assumption))) (by omega) (Ha9.out.rd.step (HSB.out (by assumption))) true (by simp)).mono ?_; rintro e w10 ⟨rfl, hb10⟩; have hS10 := HST.out (by assumption) hb10; have HS10A := Aside0.mk hS10; clear hb10; clear hS10))
      all_goals
        go_wp2
        go_ret
        exact ⟨rfl, below_then HB9.out HB9.out.size (HSB.out HS13A.out)⟩
end Go.Proofs.YtnmonjincnlhiaaDoor.G

namespace Go.Proofs.YtnmonjincnlhiaaDoor.joinUnit
open Go.ChangeShapes Go.WideShapes Go.ChangeAt Go.RowKit Go.Proofs.YtnmonjincnlhiaaDoorW.PrintWords Go.Proofs.YtnmonjincnlhiaaDoorW.PrintLast Go.Proofs.YtnmonjincnlhiaaDoorW.PrintMore Go.Proofs.YtnmonjincnlhiaaDoor.PRefs
set_option linter.unusedVariables false
theorem own : ownKnob Tryd.prog.godebug = none := by kernel_rfl
theorem laidOut : laidOutB Tryd.prog = true := by kernel_rfl
set_option maxRecDepth 100000 in
theorem lifted (os : Os) (started : os.Started) (H : Type) (enc : TypeId × Value → H) :
    ReturnsInHanded {} Tryd.checked os 9 .any (fun w args => (Rows.joinUnitSpec.pre enc Tryd.prog Tryd.f9 [] false w args ∧ laidMetH Tryd.prog G.laidList w) ∧ sizedMet enc Tryd.prog Tryd.f9 (OpenSpec.ofChange Rows.joinUnitSpec) false w args)
      (Rows.joinUnitSpec.post enc Tryd.prog Tryd.f9 false true false false) := by
  refine returnsInHanded_of_change_and (C := Tryd.checked) (X := fun w _ => laidMetH Tryd.prog G.laidList w) (fun _ _ _ hh h => h.of_heap hh) own started (by kernel_rfl) Tryd.func9
    (ChangeSpec.witness_shaped (enc := enc) (C := Tryd.checked) (os := os) (X := fun w _ => laidMetH Tryd.prog G.laidList w) false (World.doorLaid Tryd.prog 400 os) #[.agg #[.slice none 0 0, .slice none 0 0]] 8 rfl (World.shaped_of_RefB (by kernel_rfl) (by kernel_rfl)) (by kernel_rfl) (by kernel_rfl) (by kernel_rfl) (G.door_met os _)) ?_
  intro W base args ds gs before hval0 hW _ _ hL _
  have htab := G.tab_of hL
  have hval : ∀ (j : Nat) t v, Tryd.f9.params[j]? = some t → args[j]? = some v → Value.okWide Tryd.prog W .any base t v := hval0
  have hW' := hW
  obtain ⟨p, q, hA0, hV, rfl, hfz, hnd⟩ := hW
  have hA : DataW.TrodAll enc Tryd.prog W 0 (fun _ => true) true Tryd.f9.params.toList args.toList ds p := hA0
  rw [Tryd.params9] at hA hval
  obtain ⟨v0, vs0, d0, ds0, p0, q0, hargs, rfl, rfl, h0, r0⟩ := trodAll_cons hA
  obtain ⟨rfl, rfl, rfl⟩ := trodAll_nil r0
  obtain rfl : args = #[v0] := by cases args; simp_all
  obtain ⟨rfl, rfl⟩ := trodVars_none hV
  obtain ⟨cs0, rfl, hcs0⟩ := okWide_struct Tryd.underlying25 (hval 0 25 v0 rfl rfl)
  have k0 := h0
  have lt0 : ∀ x ∈ p0, x.block < W.heap.size := by obtain ⟨m, hm⟩ := k0; exact DataW.trod_lt m _ _ _ hm
  obtain ⟨a0, cap0, z0, ar0, capr0, zr0, rfl, c0⟩ : ∃ A c sc A' c' L, cs0 = #[.slice A sc.length c, .slice A' L.length c'] ∧ G.RelRd W A c sc A' c' L := by obtain ⟨m, hm⟩ := h0; exact G.in_part hm
  clear hA0 hval0
  refine (G.joinunit_walk a0 cap0 z0 ar0 capr0 zr0 W c0 htab).mono fun e W' ⟨he, bel⟩ => ?_
  subst he
  exact ⟨_, rfl, _, _, _, [], _, [], hW', trodAll_mk1 (shut_bool Tryd.underlying4 _), (trodAll_cons_mk (Below.trod laidOut (by kernel_rfl) (of_decide_eq_true (by kernel_rfl)) k0 bel lt0) trodAll_mk0), rfl, bel.frame _, fun h => by cases h⟩
theorem over : Rows.joinUnitRow.holds Tryd.pinned (OpenSpec.ofChange Rows.joinUnitSpec) :=
  OpenClaim.holds_of_wide 9 Tryd.f9 rfl rfl rfl rfl rfl rfl rfl ⟨rfl, rfl, rfl, rfl, rfl⟩ rfl rfl rfl rfl rfl (by kernel_rfl) Tryd.func9 (by kernel_rfl)
    (of_decide_eq_true (by kernel_rfl)) (by unfold Func.isWrapper; first | (rw [if_pos (by decide +kernel)]; kernel_rfl) | (rw [if_neg (by decide +kernel)]; exact ⟨rfl, rfl⟩))
    (fun os started H enc _ => lifted os started H enc)
theorem proved : Rows.JoinUnitCardSaid :=
  Claim7.holds_tied_plain_at .later [] [.data, .data, .data] true Rows.joinUnitCard.stood.harness false
    over (fun _ h => by cases h) (by kernel_rfl) (fun _ h => by cases h) joinUnit_row_tie rfl ⟨rfl, rfl⟩ (by kernel_rfl) rfl
    (fun f fn hf hfn => by
      obtain rfl : f = 9 := Option.some.inj ((show Tryd.prog.funcNamed "arborist/arboristlaw03.JoinUnit" = some 9 by kernel_rfl).symm.trans hf) |>.symm
      obtain rfl : fn = Tryd.f9 := (Option.some.inj (Tryd.func9.symm.trans hfn)).symm
      exact ⟨by kernel_rfl, fun j t ht => by
        rw [Tryd.params9] at ht
        have hm : t ∈ [25] := by simpa using Array.mem_of_getElem? ht
        have hall : ([25].all fun u => !Tryd.prog.wantsStandIn u) = true := by kernel_rfl
        exact (show Tryd.prog.wantsStandIn t = false by simpa using List.all_eq_true.1 hall t hm)⟩)
    (by kernel_rfl)
#print axioms proved
end Go.Proofs.YtnmonjincnlhiaaDoor.joinUnit
