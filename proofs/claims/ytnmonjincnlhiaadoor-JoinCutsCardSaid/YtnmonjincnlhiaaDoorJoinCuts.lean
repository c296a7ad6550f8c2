/- Proved: for every input the law arboristlaw03.JoinCuts returns true and its arguments read as they did; what the program's tables hold at the start is tied to the program's text. No condition. -/
import Derived.Test.YtnmonjincnlhiaaDoorRows
import Derived.Test.YtnmonjincnlhiaaDoorCards
import Derived.Test.YtnmonjincnlhiaaDoorTie
import Derived.Test.YtnmonjincnlhiaaDoorMeet
import Derived.Deep.Matrix
import Derived.ProofKit
import Derived.OpenShut
import Derived.WalkKit
import Derived.ShutString
import Derived.ChangeOld
import Derived.Below
import Derived.SevenTiedAt
import Derived.Stop.Joined
import Derived.Deep.DeepCutAuto
set_option linter.unusedVariables false
set_option linter.unusedSimpArgs false
namespace Go.Proofs.YtnmonjincnlhiaaDoor.G
open Go.RowKit Go.Proofs.YtnmonjincnlhiaaDoorW.PrintWords Go.Proofs.YtnmonjincnlhiaaDoorW.PrintLast Go.Proofs.YtnmonjincnlhiaaDoorW.PrintMore Go.Proofs.YtnmonjincnlhiaaDoor.PRefs
attribute [local go_sem] min2_mn min_two

set_option maxHeartbeats 4000000 in
set_option maxRecDepth 100000 in
theorem joincuts_walk (A0 : Option Addr) (c0 : Nat) (sx : List Int) (B0 : Option Addr) (d0 : Nat) (rx : List (List Int)) (A1 : Option Addr) (c1 : Nat) (sy : List Int) (B1 : Option Addr) (d1 : Nat) (ry : List (List Int)) (w : World) (hr0 : RelRd w A0 c0 sx B0 d0 rx) (hr1 : RelRd w A1 c1 sy B1 d1 ry) (htab : Tab w) :
    Calls Tryd.prog 10 #[.agg #[.slice A0 sx.length c0, .slice B0 rx.length d0], .agg #[.slice A1 sy.length c1, .slice B1 ry.length d1]] w fun e w' => e = .returned (.bool true) ∧ Below w.heap.size w w' := by
  have HT := Aside0.mk htab
  clear htab
  obtain ⟨W0, hW0⟩ : ∃ W0, ((w.alloc (.cells #[.slice A0 sx.length c0, .slice B0 rx.length d0] 25)).alloc (.cells #[.slice A1 sy.length c1, .slice B1 ry.length d1] 25)) = W0 := ⟨_, rfl⟩
  have hbe : Below w.heap.size w W0 := by rw [← hW0]; exact below_alloc (below_alloc (Below.refl _ _) _) _
  have HB1 := Aside0.mk hbe
  have hk0 : W0.heap[w.heap.size]? = some (.cells #[.slice A0 sx.length c0, .slice B0 rx.length d0] 25 (0, 0)) := by
    rw [← hW0]
    have h0 := heap_alloc_new w (.cells #[.slice A0 sx.length c0, .slice B0 rx.length d0] 25)
    try simp only [World.size_alloc] at h0
    exact ((Below.heap_alloc _ _ _ (by first | (simp; done) | (simp; omega))).trans h0)
  have Hpx1 := Aside0.mk (PtBx.mk hk0 (hr0.step hbe))
  have qpx0_1 := blk2_c0 hk0
  have qpx1_1 := blk2_c1 hk0
  have hk1 : W0.heap[w.heap.size + 1]? = some (.cells #[.slice A1 sy.length c1, .slice B1 ry.length d1] 25 (0, 0)) := by
    rw [← hW0]
    have h0 := heap_alloc_new (w.alloc (.cells #[.slice A0 sx.length c0, .slice B0 rx.length d0] 25)) (.cells #[.slice A1 sy.length c1, .slice B1 ry.length d1] 25)
    try simp only [World.size_alloc] at h0
    exact h0
  have Hpy1 := Aside0.mk (PtBx.mk hk1 (hr1.step hbe))
  have qpy0_1 := blk2_c0 hk1
  have qpy1_1 := blk2_c1 hk1
  clear hbe hk0 hr0 hk1 hr1
  have hSx := sm_small sx rx
  have HFx := Aside0.mk (Small3_f sx rx 4000 (Nat.le_refl _))
  generalize smallRows3 (smallS3 sx).length rx = X at *
  generalize smallS3 sx = SA at *
  have hSy := sm_small sy ry
  have HFy := Aside0.mk (Small3_f sy ry 4000 (Nat.le_refl _))
  generalize smallRows3 (smallS3 sy).length ry = Y at *
  generalize smallS3 sy = SB at *
  have hj := rt_smjoin hSx hSy
  have hjl := sm_join hSx hSy
  have hjn := join_len_le SA X SB Y
  have hpj := semi_proj hSx.rt.r hSy.rt.r
  have hsub : ∀ t ∈ semiRows SA X SB Y, t ∈ X := fun t h => (List.mem_filter.1 h).1
  have hap : (SA.filter fun a => decide (a ∈ SB)).length = 0 → (joinRows SA X SB Y).length = X.length * Y.length := fun h => join_len_apart hSx.rt.r hSy.rt.r (by rw [onto_eq SA SB hSx.rt.r.1.1]; exact List.length_eq_zero_iff.1 h)
  have hn0 : X.length * Y.length ≤ 12 * 12 := Nat.mul_le_mul hSx.l hSy.l
  have hTl : (SA.filter fun a => decide (a ∈ SB)).length ≤ SA.length := List.length_filter_le _ _
  obtain ⟨S, hSe⟩ : ∃ S, semiRows SA X SB Y = S := ⟨_, rfl⟩
  obtain ⟨U, hU⟩ : ∃ U, uni SA SB = U := ⟨_, rfl⟩
  obtain ⟨J, hJ⟩ : ∃ J, joinRows SA X SB Y = J := ⟨_, rfl⟩
  obtain ⟨T, hT⟩ : ∃ T, (SA.filter fun a => decide (a ∈ SB)) = T := ⟨_, rfl⟩
  obtain ⟨n, hn⟩ : ∃ n, X.length * Y.length = n := ⟨_, rfl⟩
  rw [hU, hJ] at hj
  rw [hJ] at hjl
  rw [hJ, hn] at hjn
  rw [hU, hJ, hSe] at hpj
  rw [hSe] at hsub
  rw [hT, hJ, hn] at hap
  rw [hT] at hTl
  rw [hn] at hn0
  have hmul : (X.length : Int) * (Y.length : Int) = (n : Int) := by rw [← hn]; exact (Int.natCast_mul _ _).symm
  have hwr : IntKind.i64.wrap (n : Int) = (n : Int) := Go.IntWalk.i64_in _ (by omega)
  have hSl : S.length ≤ X.length := by rw [← hSe]; exact List.length_filter_le _ _
  have HE := Aside0.mk (And.intro hU (And.intro hJ (And.intro hpj (And.intro hT hsub))))
  have HRT := Aside0.mk (And.intro hSx.rt (And.intro hSy.rt hj))
  have HSZ := Aside0.mk (And.intro hSx.sz hSx.rt.r.2.2)
  have hlX := hSx.l
  have hlY := hSy.l
  have hsA := hSx.s
  have hsB := hSy.s
  have hUl : U.length ≤ 6 := by rw [← hU]; exact Nat.le_trans (uni_len SA SB) (by omega)
  clear hSe hU hJ hT hn hpj hsub hj hSx hSy
  go_enter Tryd.func10, Tryd.ntmps10
  go_upto_region 8 with (first
    | (have hgd := HB5; clear hgd; go_at_call 16; refine (project_to Hj5.out.rd HRT.out.2.2 Ha5.out.rd.row (by omega) HE.out.2.2.1).mono ?_; rintro e w6 ⟨Ap, cp, Dp, dp, rfl, hr6, hb6⟩; have hx6 := below_box hb6 (.cells #[.slice Ap SA.length cp, .slice Dp S.length dp] 27); have HB6 := Aside0.mk (below_then HB5.out HB5.out.size hx6); have Ha6 := Aside0.mk (Ha5.out.step hx6); have Hb6 := Aside0.mk (Hb5.out.step hx6); have Hj6 := Aside0.mk (Hj5.out.step hx6); have Hp6 := Aside0.mk (RelBx.new hr6); have qa0_6 := blk2_c0 Ha6.out.blk; have qa1_6 := blk2_c1 Ha6.out.blk; have qb0_6 := blk2_c0 Hb6.out.blk; have qb1_6 := blk2_c1 Hb6.out.blk; have qj0_6 := blk2_c0 Hj6.out.blk; have qj1_6 := blk2_c1 Hj6.out.blk; have qp0_6 := blk2_c0 Hp6.out.blk; have qp1_6 := blk2_c1 Hp6.out.blk; clear hb6 hr6 hx6 Ha5 Hb5 Hj5 qa0_5 qa1_5 qb0_5 qb1_5 qj0_5 qj1_5)
    | (have hgd := HB4; clear hgd; go_at_call 14; refine (join_ok Ha4.out.rd HRT.out.1 Hb4.out.rd HRT.out.2.1 (HT.out.step HB4.out) HE.out.1 HE.out.2.1 (by omega)).mono ?_; rintro e w5 ⟨Aj, cj, Dj, dj, rfl, hr5, hb5⟩; have hx5 := below_box hb5 (.cells #[.slice Aj U.length cj, .slice Dj J.length dj] 27); have HB5 := Aside0.mk (below_then HB4.out HB4.out.size hx5); have Ha5 := Aside0.mk (Ha4.out.step hx5); have Hb5 := Aside0.mk (Hb4.out.step hx5); have Hj5 := Aside0.mk (RelBx.new hr5); have qa0_5 := blk2_c0 Ha5.out.blk; have qa1_5 := blk2_c1 Ha5.out.blk; have qb0_5 := blk2_c0 Hb5.out.blk; have qb1_5 := blk2_c1 Hb5.out.blk; have qj0_5 := blk2_c0 Hj5.out.blk; have qj1_5 := blk2_c1 Hj5.out.blk; clear hb5 hr5 hx5 Ha4 Hb4 qa0_4 qa1_4 qb0_4 qb1_4)
    | (have hgd := HB3; clear hgd; go_at_call 12; refine (small3_is _ _ sy _ _ ry _ Hpy3.out.rd.row Hpy3.out.rd.cap Hpy3.out.rd.rows Hpy3.out.rd.cap2 HFy.out).mono ?_; rintro e w4 ⟨Ab, cb, Db, db, rfl, hr4, hb4⟩; have hx4 := below_box hb4 (.cells #[.slice Ab SB.length cb, .slice Db Y.length db] 27); have HB4 := Aside0.mk (below_then HB3.out HB3.out.size hx4); have Ha4 := Aside0.mk (Ha3.out.step hx4); have Hb4 := Aside0.mk (RelBx.new hr4); have qa0_4 := blk2_c0 Ha4.out.blk; have qa1_4 := blk2_c1 Ha4.out.blk; have qb0_4 := blk2_c0 Hb4.out.blk; have qb1_4 := blk2_c1 Hb4.out.blk; clear hb4 hr4 hx4 Hpy3 Ha3 qpy0_3 qpy1_3 qa0_3 qa1_3)
    | (have hgd := HB2; clear hgd; go_at_call 12; refine (small3_is _ _ sx _ _ rx _ Hpx2.out.rd.row Hpx2.out.rd.cap Hpx2.out.rd.rows Hpx2.out.rd.cap2 HFx.out).mono ?_; rintro e w3 ⟨Aa, ca, Da, da, rfl, hr3, hb3⟩; have hx3 := below_box hb3 (.cells #[.slice Aa SA.length ca, .slice Da X.length da] 27); have HB3 := Aside0.mk (below_then HB2.out HB2.out.size hx3); have Hpy3 := Aside0.mk (Hpy2.out.step hx3); have Ha3 := Aside0.mk (RelBx.new hr3); have qpy0_3 := blk2_c0 Hpy3.out.blk; have qpy1_3 := blk2_c1 Hpy3.out.blk; have qa0_3 := blk2_c0 Ha3.out.blk; have qa1_3 := blk2_c1 Ha3.out.blk; clear hb3 hr3 hx3 Hpx2 Hpy2 qpx0_2 qpx1_2 qpy0_2 qpy1_2)
    | (have hgd := HB1; clear hgd; go_at_call 11; refine (shown3_any _ (HT.out.step HB1.out)).mono ?_; rintro e w2 ⟨rfl, hb2⟩; have HB2 := Aside0.mk (below_then HB1.out HB1.out.size hb2); have Hpx2 := Aside0.mk (Hpx1.out.step hb2); have Hpy2 := Aside0.mk (Hpy1.out.step hb2); have qpx0_2 := blk2_c0 Hpx2.out.blk; have qpx1_2 := blk2_c1 Hpx2.out.blk; have qpy0_2 := blk2_c0 Hpy2.out.blk; have qpy1_2 := blk2_c1 Hpy2.out.blk; clear hb2 Hpx1 Hpy1 qpx0_1 qpx1_1 qpy0_1 qpy1_1))
  clear qa0_6 qa1_6 qb0_6 qb1_6 qj0_6 qj1_6 qp0_6 qp1_6
  generalize w6.alloc (.cells #[.slice Ap SA.length cp, .slice Dp S.length dp] 27) = WA at HB6 Ha6 Hb6 Hj6 Hp6 ⊢
  generalize w3.heap.size = ga at Ha6 ⊢
  generalize w4.heap.size = gb at Hb6 ⊢
  generalize w5.heap.size = gj at Hj6 ⊢
  generalize w6.heap.size = gp at Hp6 ⊢
  go_wp2_with fail
  go_loopw [11] (fun i W => ∃ (k : Nat), k ≤ S.length ∧ i = .int .i64 k ∧ Aside0 (Below WA.heap.size WA W)) (fun i _ => S.length - (intOf i).toNat)
  case atStart => exact ⟨0, Nat.zero_le _, rfl, ⟨Below.refl _ _⟩⟩
  case round =>
    obtain ⟨k, hk, rfl, HW⟩ := hrel
    have HB40 := Aside0.mk (below_then HB6.out HB6.out.size HW.out)
    have Ha40 := Aside0.mk (Ha6.out.step HW.out)
    have Hb40 := Aside0.mk (Hb6.out.step HW.out)
    have Hj40 := Aside0.mk (Hj6.out.step HW.out)
    have Hp40 := Aside0.mk (Hp6.out.step HW.out)
    have kp1 := blk2_c1 Hp40.out.blk
    clear HB6 Ha6 Hb6 Hj6 Hp6
    by_cases hlt : k < S.length
    · obtain ⟨ad, Bx, cx, hDp, hx, hlx, hcx⟩ := at_row Hp40.out.rd.rows (Below.refl _ _) k hlt
      subst hDp
      have hmem : S.getD k [] ∈ X := HE.out.2.2.2.2 _ (by rw [getD_get _ _ hlt]; exact List.getElem_mem hlt)
      have hkl : (k : Int) < (S.length : Int) := by omega
      generalize S.getD k [] = x at hx hlx hcx hmem
      have HX := Aside0.mk (And.intro hcx hmem)
      clear hcx hmem
      go_upto_region 11 with fail
      have HST := Aside0.mk (show ∀ {W W1 : World}, (W.cell? ⟨ga, 0, none⟩ = some (.slice Aa SA.length ca) ∧ W.cell? ⟨ga, 1, none⟩ = some (.slice Da X.length da) ∧ W.cell? ⟨gp, 1, none⟩ = some (.slice (some ad) S.length dp) ∧ W.cell? (ad.add k) = some (.slice Bx x.length cx) ∧ Below wr.heap.size wr W) → Below W.heap.size W W1 → (W1.cell? ⟨ga, 0, none⟩ = some (.slice Aa SA.length ca) ∧ W1.cell? ⟨ga, 1, none⟩ = some (.slice Da X.length da) ∧ W1.cell? ⟨gp, 1, none⟩ = some (.slice (some ad) S.length dp) ∧ W1.cell? (ad.add k) = some (.slice Bx x.length cx) ∧ Below wr.heap.size wr W1) from fun {W W1} h hb => ⟨(hb.cell (World.block_lt_of_cell? W _ h.1)).trans h.1, (hb.cell (World.block_lt_of_cell? W _ h.2.1)).trans h.2.1, (hb.cell (World.block_lt_of_cell? W _ h.2.2.1)).trans h.2.2.1, (hb.cell (World.block_lt_of_cell? W _ h.2.2.2.1)).trans h.2.2.2.1, below_then h.2.2.2.2 h.2.2.2.2.size hb⟩)
      have HSB := Aside0.mk (show ∀ {W : World}, (W.cell? ⟨ga, 0, none⟩ = some (.slice Aa SA.length ca) ∧ W.cell? ⟨ga, 1, none⟩ = some (.slice Da X.length da) ∧ W.cell? ⟨gp, 1, none⟩ = some (.slice (some ad) S.length dp) ∧ W.cell? (ad.add k) = some (.slice Bx x.length cx) ∧ Below wr.heap.size wr W) → Below wr.heap.size wr W from fun {W} h => h.2.2.2.2)
      have HS0A := Aside0.mk (show (wr.cell? ⟨ga, 0, none⟩ = some (.slice Aa SA.length ca) ∧ wr.cell? ⟨ga, 1, none⟩ = some (.slice Da X.length da) ∧ wr.cell? ⟨gp, 1, none⟩ = some (.slice (some ad) S.length dp) ∧ wr.cell? (ad.add k) = some (.slice Bx x.length cx) ∧ Below wr.heap.size wr wr) from ⟨blk2_c0 Ha40.out.blk, blk2_c1 Ha40.out.blk, blk2_c1 Hp40.out.blk, hx, Below.refl _ _⟩)
      have HSDA := Aside0.mk (HST.out HS0A.out (below_drew (Below.refl _ _)))
      have qq0 := HS0A.out.1
      have qq1 := HS0A.out.2.1
      have qq2 := HS0A.out.2.2.1
      have qq3 := HS0A.out.2.2.2.1
      clear hx kp1
      go_region_held3 (fun W => W.cell? ⟨ga, 0, none⟩ = some (.slice Aa SA.length ca) ∧ W.cell? ⟨ga, 1, none⟩ = some (.slice Da X.length da) ∧ W.cell? ⟨gp, 1, none⟩ = some (.slice (some ad) S.length dp) ∧ W.cell? (ad.add k) = some (.slice Bx x.length cx) ∧ Below wr.heap.size wr W)
        (first | with_reducible exact HS30A.out | with_reducible exact HSDA.out | with_reducible exact HS0A.out | with_reducible exact HST.out HS30A.out (below_alloc (Below.refl _ _) _) | with_reducible exact HST.out (by assumption) (below_alloc (Below.refl _ _) _) | with_reducible exact HST.out (by assumption) (below_drew (Below.refl _ _)))
        (first
          | (go_at_call 24; refine (has_is (Ha40.out.rd.step (HSB.out (by assumption))) HSZ.out.1 HSZ.out.2 (Kd.C_below HX.out.1 (HSB.out (by assumption))) true (decide_eq_true HX.out.2)).mono ?_; rintro e w30 ⟨rfl, hb30⟩; have hS30 := HST.out (by assumption) hb30; have HS30A := Aside0.mk hS30; clear hb30; clear hS30))
      go_wp2_with fail
      go_roundw
      case measure => simp [intOf]; omega
      case rel => exact ⟨k + 1, by omega, by go_num, ⟨below_then HW.out HW.out.size (HSB.out HS30A.out)⟩⟩
    · have hke : k = S.length := by omega
      subst hke
      have qa0_40 := blk2_c0 Ha40.out.blk
      have qa1_40 := blk2_c1 Ha40.out.blk
      have qb0_40 := blk2_c0 Hb40.out.blk
      have qb1_40 := blk2_c1 Hb40.out.blk
      have qj0_40 := blk2_c0 Hj40.out.blk
      have qj1_40 := blk2_c1 Hj40.out.blk
      go_upto_region 15 with (have hgd := HB40; clear hgd; go_at_call 25; refine (meet_is Ha40.out.rd.row Ha40.out.rd.cap Hb40.out.rd.row Hb40.out.rd.cap (by omega) (by omega) HE.out.2.2.2.1).mono ?_; rintro e w41 ⟨Am, cm, rfl, hb41⟩; have HB41 := Aside0.mk (below_then HB40.out HB40.out.size hb41); have Ha41 := Aside0.mk (Ha40.out.step hb41); have Hb41 := Aside0.mk (Hb40.out.step hb41); have Hj41 := Aside0.mk (Hj40.out.step hb41); have qa0_41 := blk2_c0 Ha41.out.blk; have qa1_41 := blk2_c1 Ha41.out.blk; have qb0_41 := blk2_c0 Hb41.out.blk; have qb1_41 := blk2_c1 Hb41.out.blk; have qj0_41 := blk2_c0 Hj41.out.blk; have qj1_41 := blk2_c1 Hj41.out.blk; clear hb41 Ha40 Hb40 Hj40 qa0_40 qa1_40 qb0_40 qb1_40 qj0_40 qj1_40)
      all_goals
        clear qa0_41 qa1_41 qb0_41 qb1_41 qj0_41 qj1_41
        have HST := Aside0.mk (show ∀ {W W1 : World}, (W.cell? ⟨ga, 0, none⟩ = some (.slice Aa SA.length ca) ∧ W.cell? ⟨ga, 1, none⟩ = some (.slice Da X.length da) ∧ W.cell? ⟨gb, 0, none⟩ = some (.slice Ab SB.length cb) ∧ W.cell? ⟨gb, 1, none⟩ = some (.slice Db Y.length db) ∧ W.cell? ⟨gj, 0, none⟩ = some (.slice Aj U.length cj) ∧ W.cell? ⟨gj, 1, none⟩ = some (.slice Dj J.length dj) ∧ Below w41.heap.size w41 W) → Below W.heap.size W W1 → (W1.cell? ⟨ga, 0, none⟩ = some (.slice Aa SA.length ca) ∧ W1.cell? ⟨ga, 1, none⟩ = some (.slice Da X.length da) ∧ W1.cell? ⟨gb, 0, none⟩ = some (.slice Ab SB.length cb) ∧ W1.cell? ⟨gb, 1, none⟩ = some (.slice Db Y.length db) ∧ W1.cell? ⟨gj, 0, none⟩ = some (.slice Aj U.length cj) ∧ W1.cell? ⟨gj, 1, none⟩ = some (.slice Dj J.length dj) ∧ Below w41.heap.size w41 W1) from fun {W W1} h hb => ⟨(hb.cell (World.block_lt_of_cell? W _ h.1)).trans h.1, (hb.cell (World.block_lt_of_cell? W _ h.2.1)).trans h.2.1, (hb.cell (World.block_lt_of_cell? W _ h.2.2.1)).trans h.2.2.1, (hb.cell (World.block_lt_of_cell? W _ h.2.2.2.1)).trans h.2.2.2.1, (hb.cell (World.block_lt_of_cell? W _ h.2.2.2.2.1)).trans h.2.2.2.2.1, (hb.cell (World.block_lt_of_cell? W _ h.2.2.2.2.2.1)).trans h.2.2.2.2.2.1, below_then h.2.2.2.2.2.2 h.2.2.2.2.2.2.size hb⟩)
        have HSB := Aside0.mk (show ∀ {W : World}, (W.cell? ⟨ga, 0, none⟩ = some (.slice Aa SA.length ca) ∧ W.cell? ⟨ga, 1, none⟩ = some (.slice Da X.length da) ∧ W.cell? ⟨gb, 0, none⟩ = some (.slice Ab SB.length cb) ∧ W.cell? ⟨gb, 1, none⟩ = some (.slice Db Y.length db) ∧ W.cell? ⟨gj, 0, none⟩ = some (.slice Aj U.length cj) ∧ W.cell? ⟨gj, 1, none⟩ = some (.slice Dj J.length dj) ∧ Below w41.heap.size w41 W) → Below w41.heap.size w41 W from fun {W} h => h.2.2.2.2.2.2)
        have HS0A := Aside0.mk (show (w41.cell? ⟨ga, 0, none⟩ = some (.slice Aa SA.length ca) ∧ w41.cell? ⟨ga, 1, none⟩ = some (.slice Da X.length da) ∧ w41.cell? ⟨gb, 0, none⟩ = some (.slice Ab SB.length cb) ∧ w41.cell? ⟨gb, 1, none⟩ = some (.slice Db Y.length db) ∧ w41.cell? ⟨gj, 0, none⟩ = some (.slice Aj U.length cj) ∧ w41.cell? ⟨gj, 1, none⟩ = some (.slice Dj J.length dj) ∧ Below w41.heap.size w41 w41) from ⟨blk2_c0 Ha41.out.blk, blk2_c1 Ha41.out.blk, blk2_c0 Hb41.out.blk, blk2_c1 Hb41.out.blk, blk2_c0 Hj41.out.blk, blk2_c1 Hj41.out.blk, Below.refl _ _⟩)
        have HSDA := Aside0.mk (HST.out HS0A.out (below_drew (Below.refl _ _)))
        have qq0 := HS0A.out.1
        have qq1 := HS0A.out.2.1
        have qq2 := HS0A.out.2.2.1
        have qq3 := HS0A.out.2.2.2.1
        have qq4 := HS0A.out.2.2.2.2.1
        have qq5 := HS0A.out.2.2.2.2.2.1
        go_region_held3 (fun W => W.cell? ⟨ga, 0, none⟩ = some (.slice Aa SA.length ca) ∧ W.cell? ⟨ga, 1, none⟩ = some (.slice Da X.length da) ∧ W.cell? ⟨gb, 0, none⟩ = some (.slice Ab SB.length cb) ∧ W.cell? ⟨gb, 1, none⟩ = some (.slice Db Y.length db) ∧ W.cell? ⟨gj, 0, none⟩ = some (.slice Aj U.length cj) ∧ W.cell? ⟨gj, 1, none⟩ = some (.slice Dj J.length dj) ∧ Below w41.heap.size w41 W)
          (first | with_reducible exact HS52A.out | with_reducible exact HS51A.out | with_reducible exact HSDA.out | with_reducible exact HS0A.out | with_reducible exact HST.out HS52A.out (below_alloc (Below.refl _ _) _) | with_reducible exact HST.out HS51A.out (below_alloc (Below.refl _ _) _) | with_reducible exact HST.out (by assumption) (below_alloc (Below.refl _ _) _) | with_reducible exact HST.out (by assumption) (below_drew (Below.refl _ _)))
          (first
            | (have hgd := HS51A; clear hgd; go_at_call 26; refine (alike_is (Hj41.out.rd.step (HSB.out (by assumption))).row Hj41.out.rd.cap (Kd.C_below HU.out.2 (by first | exact Below.refl _ _ | exact below_drew (Below.refl _ _))) HU.out.1 (by omega)).mono ?_; rintro e w52 ⟨rfl, hb52⟩; have hS52 := HST.out (by assumption) hb52; have HS52A := Aside0.mk hS52; clear hb52; clear hS52)
            | (go_at_call 27; refine (docunite_is (Ha41.out.rd.step (HSB.out (by assumption))).row Ha41.out.rd.cap (Hb41.out.rd.step (HSB.out (by assumption))).row Hb41.out.rd.cap (by omega) (by omega) HRT.out.1.r.1.1 HRT.out.2.1.r.1.1 HE.out.1).mono ?_; rintro e w51 ⟨Au, cu, rfl, hu, hb51⟩; have hS51 := HST.out (by assumption) hb51; have HS51A := Aside0.mk hS51; have HU := Aside0.mk hu; clear hu hb51; clear hS51))
        all_goals
          go_wp2
          go_ret
          exact ⟨rfl, below_then HB41.out HB41.out.size (HSB.out HS52A.out)⟩
end Go.Proofs.YtnmonjincnlhiaaDoor.G

namespace Go.Proofs.YtnmonjincnlhiaaDoor.joinCuts
open Go.ChangeShapes Go.WideShapes Go.ChangeAt Go.RowKit Go.Proofs.YtnmonjincnlhiaaDoorW.PrintWords Go.Proofs.YtnmonjincnlhiaaDoorW.PrintLast Go.Proofs.YtnmonjincnlhiaaDoorW.PrintMore Go.Proofs.YtnmonjincnlhiaaDoor.PRefs
set_option linter.unusedVariables false
theorem own : ownKnob Tryd.prog.godebug = none := by kernel_rfl
theorem laidOut : laidOutB Tryd.prog = true := by kernel_rfl
set_option maxRecDepth 100000 in
theorem lifted (os : Os) (started : os.Started) (H : Type) (enc : TypeId × Value → H) :
    ReturnsInHanded {} Tryd.checked os 10 .any (fun w args => (Rows.joinCutsSpec.pre enc Tryd.prog Tryd.f10 [] false w args ∧ laidMetH Tryd.prog G.laidList w) ∧ sizedMet enc Tryd.prog Tryd.f10 (OpenSpec.ofChange Rows.joinCutsSpec) false w args)
      (Rows.joinCutsSpec.post enc Tryd.prog Tryd.f10 false true false false) := by
  refine returnsInHanded_of_change_and (C := Tryd.checked) (X := fun w _ => laidMetH Tryd.prog G.laidList w) (fun _ _ _ hh h => h.of_heap hh) own started (by kernel_rfl) Tryd.func10
    (ChangeSpec.witness_shaped (enc := enc) (C := Tryd.checked) (os := os) (X := fun w _ => laidMetH Tryd.prog G.laidList w) false (World.doorLaid Tryd.prog 400 os) #[.agg #[.slice none 0 0, .slice none 0 0], .agg #[.slice none 0 0, .slice none 0 0]] 8 rfl (World.shaped_of_RefB (by kernel_rfl) (by kernel_rfl)) (by kernel_rfl) (by kernel_rfl) (by kernel_rfl) (G.door_met os _)) ?_
  intro W base args ds gs before hval0 hW _ _ hL _
  have htab := G.tab_of hL
  have hval : ∀ (j : Nat) t v, Tryd.f10.params[j]? = some t → args[j]? = some v → Value.okWide Tryd.prog W .any base t v := hval0
  have hW' := hW
  obtain ⟨p, q, hA0, hV, rfl, hfz, hnd⟩ := hW
  have hA : DataW.TrodAll enc Tryd.prog W 0 (fun _ => true) true Tryd.f10.params.toList args.toList ds p := hA0
  rw [Tryd.params10] at hA hval
  obtain ⟨v0, vs0, d0, ds0, p0, q0, hargs, rfl, rfl, h0, r0⟩ := trodAll_cons hA
  obtain ⟨v1, vs1, d1, ds1, p1, q1, rfl, rfl, rfl, h1, r1⟩ := trodAll_cons r0
  obtain ⟨rfl, rfl, rfl⟩ := trodAll_nil r1
  obtain rfl : args = #[v0, v1] := by cases args; simp_all
  obtain ⟨rfl, rfl⟩ := trodVars_none hV
  obtain ⟨cs0, rfl, hcs0⟩ := okWide_struct Tryd.underlying25 (hval 0 25 v0 rfl rfl)
  obtain ⟨cs1, rfl, hcs1⟩ := okWide_struct Tryd.underlying25 (hval 1 25 v1 rfl rfl)
  have k0 := h0
  have lt0 : ∀ x ∈ p0, x.block < W.heap.size := by obtain ⟨m, hm⟩ := k0; exact DataW.trod_lt m _ _ _ hm
  have k1 := h1
  have lt1 : ∀ x ∈ p1, x.block < W.heap.size := by obtain ⟨m, hm⟩ := k1; exact DataW.trod_lt m _ _ _ hm
  obtain ⟨a0, cap0, z0, ar0, capr0, zr0, rfl, c0⟩ : ∃ A c sc A' c' L, cs0 = #[.slice A sc.length c, .slice A' L.length c'] ∧ G.RelRd W A c sc A' c' L := by obtain ⟨m, hm⟩ := h0; exact G.in_part hm
  obtain ⟨a1, cap1, z1, ar1, capr1, zr1, rfl, c1⟩ : ∃ A c sc A' c' L, cs1 = #[.slice A sc.length c, .slice A' L.length c'] ∧ G.RelRd W A c sc A' c' L := by obtain ⟨m, hm⟩ := h1; exact G.in_part hm
  clear hA0 hval0
  refine (G.joincuts_walk a0 cap0 z0 ar0 capr0 zr0 a1 cap1 z1 ar1 capr1 zr1 W c0 c1 htab).mono fun e W' ⟨he, bel⟩ => ?_
  subst he
  exact ⟨_, rfl, _, _, _, [], _, [], hW', trodAll_mk1 (shut_bool Tryd.underlying4 _), (trodAll_cons_mk (Below.trod laidOut (by kernel_rfl) (of_decide_eq_true (by kernel_rfl)) k0 bel lt0) (trodAll_cons_mk (Below.trod laidOut (by kernel_rfl) (of_decide_eq_true (by kernel_rfl)) k1 bel lt1) trodAll_mk0)), rfl, bel.frame _, fun h => by cases h⟩
theorem over : Rows.joinCutsRow.holds Tryd.pinned (OpenSpec.ofChange Rows.joinCutsSpec) :=
  OpenClaim.holds_of_wide 10 Tryd.f10 rfl rfl rfl rfl rfl rfl rfl ⟨rfl, rfl, rfl, rfl, rfl⟩ rfl rfl rfl rfl rfl (by kernel_rfl) Tryd.func10 (by kernel_rfl)
    (of_decide_eq_true (by kernel_rfl)) (by unfold Func.isWrapper; first | (rw [if_pos (by decide +kernel)]; kernel_rfl) | (rw [if_neg (by decide +kernel)]; exact ⟨rfl, rfl⟩))
    (fun os started H enc _ => lifted os started H enc)
theorem proved : Rows.JoinCutsCardSaid :=
  Claim7.holds_tied_plain_at .later [] [.data, .data, .data] true Rows.joinCutsCard.stood.harness false
    over (fun _ h => by cases h) (by kernel_rfl) (fun _ h => by cases h) joinCuts_row_tie rfl ⟨rfl, rfl⟩ (by kernel_rfl) rfl
    (fun f fn hf hfn => by
      obtain rfl : f = 10 := Option.some.inj ((show Tryd.prog.funcNamed "arborist/arboristlaw03.JoinCuts" = some 10 by kernel_rfl).symm.trans hf) |>.symm
      obtain rfl : fn = Tryd.f10 := (Option.some.inj (Tryd.func10.symm.trans hfn)).symm
      exact ⟨by kernel_rfl, fun j t ht => by
        rw [Tryd.params10] at ht
        have hm : t ∈ [25, 25] := by simpa using Array.mem_of_getElem? ht
        have hall : ([25, 25].all fun u => !Tryd.prog.wantsStandIn u) = true := by kernel_rfl
        exact (show Tryd.prog.wantsStandIn t = false by simpa using List.all_eq_true.1 hall t hm)⟩)
    (by kernel_rfl)
#print axioms proved
end Go.Proofs.YtnmonjincnlhiaaDoor.joinCuts
