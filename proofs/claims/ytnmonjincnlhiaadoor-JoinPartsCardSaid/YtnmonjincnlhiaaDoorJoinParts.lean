/- Proved: for every input the law arboristlaw03.JoinParts returns true and its arguments read as they did; what the program's tables hold at the start is tied to the program's text. No condition. -/
import Derived.Test.YtnmonjincnlhiaaDoorRows
import Derived.Test.YtnmonjincnlhiaaDoorCards
import Derived.Test.YtnmonjincnlhiaaDoorTie
import Derived.Test.YtnmonjincnlhiaaDoorInPart
import Derived.Deep.Matrix
import Derived.ProofKit
import Derived.OpenShut
import Derived.WalkKit
import Derived.ShutString
import Derived.ChangeOld
import Derived.Below
import Derived.SevenTiedAt
import Derived.Stop.Joined
import Derived.Deep.DeepCutAuto
set_option linter.unusedVariables false
set_option linter.unusedSimpArgs false
namespace Go.Proofs.YtnmonjincnlhiaaDoor.G
open Go.RowKit Go.Proofs.YtnmonjincnlhiaaDoorW.PrintWords Go.Proofs.YtnmonjincnlhiaaDoorW.PrintLast Go.Proofs.YtnmonjincnlhiaaDoorW.PrintMore Go.Proofs.YtnmonjincnlhiaaDoor.PRefs
attribute [local go_sem] min2_mn min_two

set_option maxHeartbeats 4000000 in
set_option maxRecDepth 100000 in
theorem joinparts_walk (A0 : Option Addr) (c0 : Nat) (sx : List Int) (B0 : Option Addr) (d0 : Nat) (rx : List (List Int)) (A1 : Option Addr) (c1 : Nat) (sy : List Int) (B1 : Option Addr) (d1 : Nat) (ry : List (List Int)) (A2 : Option Addr) (c2 : Nat) (more : List (List Int)) (w : World) (hr0 : RelRd w A0 c0 sx B0 d0 rx) (hr1 : RelRd w A1 c1 sy B1 d1 ry) (hr2 : Kd.C KL w A2 more.length more) (hc2 : more.length ≤ c2) (htab : Tab w) :
    Calls Tryd.prog 6 #[.agg #[.slice A0 sx.length c0, .slice B0 rx.length d0], .agg #[.slice A1 sy.length c1, .slice B1 ry.length d1], .slice A2 more.length c2] w fun e w' => e = .returned (.bool true) ∧ Below w.heap.size w w' := by
  have HT := Aside0.mk htab
  clear htab
  obtain ⟨W0, hW0⟩ : ∃ W0, ((w.alloc (.cells #[.slice A0 sx.length c0, .slice B0 rx.length d0] 25)).alloc (.cells #[.slice A1 sy.length c1, .slice B1 ry.length d1] 25)) = W0 := ⟨_, rfl⟩
  have hbe : Below w.heap.size w W0 := by rw [← hW0]; exact below_alloc (below_alloc (Below.refl _ _) _) _
  have HB1 := Aside0.mk hbe
  have hk0 : W0.heap[w.heap.size]? = some (.cells #[.slice A0 sx.length c0, .slice B0 rx.length d0] 25 (0, 0)) := by
    rw [← hW0]
    have h0 := heap_alloc_new w (.cells #[.slice A0 sx.length c0, .slice B0 rx.length d0] 25)
    try simp only [World.size_alloc] at h0
    exact ((Below.heap_alloc _ _ _ (by first | (simp; done) | (simp; omega))).trans h0)
  have Hpx1 := Aside0.mk (PtBx.mk hk0 (hr0.step hbe))
  have qpx0_1 := blk2_c0 hk0
  have qpx1_1 := blk2_c1 hk0
  have hk1 : W0.heap[w.heap.size + 1]? = some (.cells #[.slice A1 sy.length c1, .slice B1 ry.length d1] 25 (0, 0)) := by
    rw [← hW0]
    have h0 := heap_alloc_new (w.alloc (.cells #[.slice A0 sx.length c0, .slice B0 rx.length d0] 25)) (.cells #[.slice A1 sy.length c1, .slice B1 ry.length d1] 25)
    try simp only [World.size_alloc] at h0
    exact h0
  have Hpy1 := Aside0.mk (PtBx.mk hk1 (hr1.step hbe))
  have qpy0_1 := blk2_c0 hk1
  have qpy1_1 := blk2_c1 hk1
  clear hbe hk0 hr0 hk1 hr1
  have HMO := Aside0.mk (Kd.C_below hr2 HB1.out)
  have HM0 := Aside0.mk hr2
  have hSz := sm_small sy more
  have HFz := Aside0.mk (Small3_f sy more 4000 (Nat.le_refl _))
  have hSx := sm_small sx rx
  have HFx := Aside0.mk (Small3_f sx rx 4000 (Nat.le_refl _))
  generalize smallRows3 (smallS3 sx).length rx = X at *
  generalize smallS3 sx = SA at *
  have hSy := sm_small sy ry
  have HFy := Aside0.mk (Small3_f sy ry 4000 (Nat.le_refl _))
  generalize smallRows3 (smallS3 sy).length ry = Y at *
  generalize smallRows3 (smallS3 sy).length more = Z at *
  generalize smallS3 sy = SB at *
  have hV := rt_union hSy.rt hSz.rt (by have := hSy.l; have := hSz.l; omega)
  have hVl : (Pl.sortU (Y ++ Z)).length ≤ 24 := by have := Pl.sortU_length_le (Y ++ Z); rw [List.length_append] at this; have := hSy.l; have := hSz.l; omega
  have hQ := rt_smjoin hSx hSy
  have hR := rt_smjoin hSx hSz
  have hQl := sm_join hSx hSy
  have hRl := sm_join hSx hSz
  have hPl : (joinRows SA X SB (Pl.sortU (Y ++ Z))).length ≤ 12 * 24 := Nat.le_trans (join_len_le _ _ _ _) (Nat.mul_le_mul hSx.l hVl)
  have eP := join_parts SA X SB Y Z
  have eS := semi_parts SA hSx.rt.r.2.2 SB Y Z
  have hS1 := hSx.rt.semi SB Y
  have hS2 := hSx.rt.semi SB Z
  obtain ⟨V, hVe⟩ : ∃ V, Pl.sortU (Y ++ Z) = V := ⟨_, rfl⟩
  obtain ⟨U, hU⟩ : ∃ U, uni SA SB = U := ⟨_, rfl⟩
  obtain ⟨Q, hQe⟩ : ∃ Q, joinRows SA X SB Y = Q := ⟨_, rfl⟩
  obtain ⟨R, hRe⟩ : ∃ R, joinRows SA X SB Z = R := ⟨_, rfl⟩
  obtain ⟨PP, hPe⟩ : ∃ P, joinRows SA X SB V = P := ⟨_, rfl⟩
  obtain ⟨S1, hS1e⟩ : ∃ S, semiRows SA X SB Y = S := ⟨_, rfl⟩
  obtain ⟨S2, hS2e⟩ : ∃ S, semiRows SA X SB Z = S := ⟨_, rfl⟩
  obtain ⟨T, hTe⟩ : ∃ T, semiRows SA X SB V = T := ⟨_, rfl⟩
  rw [hVe] at hV hVl hPl eP eS
  rw [hU, hQe] at hQ
  rw [hU, hRe] at hR
  rw [hQe] at hQl
  rw [hRe] at hRl
  rw [hPe] at hPl
  rw [hPe, hQe, hRe] at eP
  rw [hTe, hS1e, hS2e] at eS
  rw [hS1e] at hS1
  rw [hS2e] at hS2
  have HE := Aside0.mk (And.intro hVe (And.intro hU (And.intro hPe (And.intro hQe (And.intro hRe (And.intro eP.symm (And.intro hS1e (And.intro hS2e (And.intro eS.symm hTe)))))))))
  have HRT := Aside0.mk (And.intro hSx.rt (And.intro hSy.rt (And.intro hSz.rt (And.intro hV (And.intro hQ (And.intro hR (And.intro hS1 hS2)))))))
  have hlX := hSx.l
  have hlS1 := hS1.l
  have hTl : T.length ≤ 20000 := by rw [← hTe]; exact (hSx.rt.semi SB V).l
  clear hVe hU hQe hRe hPe hS1e hS2e hTe eP eS hV hQ hR hS1 hS2 hSx hSy hSz hr2
  have Hmo1 := HMO
  clear HMO HM0
  go_enter Tryd.func6, Tryd.ntmps6
  go_upto_region 12 with (first
    | (have hgd := HB9; clear hgd; go_at_call 18; refine (union_ok Hq9.out.rd HRT.out.2.2.2.2.1 Hr9.out.rd HRT.out.2.2.2.2.2.1 HE.out.2.2.2.2.2.1).mono ?_; rintro e w10 ⟨Av, cv, Dv, dv, rfl, hr10, hb10⟩; have hx10 := below_box hb10 (.cells #[.slice Av U.length cv, .slice Dv PP.length dv] 27); have HB10 := Aside0.mk (below_then HB9.out HB9.out.size hx10); have Ha10 := Aside0.mk (Ha9.out.step hx10); have Hb10 := Aside0.mk (Hb9.out.step hx10); have Hc10 := Aside0.mk (Hc9.out.step hx10); have Hu10 := Aside0.mk (Hu9.out.step hx10); have Hp10 := Aside0.mk (Hp9.out.step hx10); have Hv10 := Aside0.mk (RelBx.new hr10); have qa0_10 := blk2_c0 Ha10.out.blk; have qa1_10 := blk2_c1 Ha10.out.blk; have qb0_10 := blk2_c0 Hb10.out.blk; have qb1_10 := blk2_c1 Hb10.out.blk; have qc0_10 := blk2_c0 Hc10.out.blk; have qc1_10 := blk2_c1 Hc10.out.blk; have qu0_10 := blk2_c0 Hu10.out.blk; have qu1_10 := blk2_c1 Hu10.out.blk; have qp0_10 := blk2_c0 Hp10.out.blk; have qp1_10 := blk2_c1 Hp10.out.blk; have qv0_10 := blk2_c0 Hv10.out.blk; have qv1_10 := blk2_c1 Hv10.out.blk; clear hb10 hr10 hx10 Hq9 Hr9 Ha9 Hb9 Hc9 Hu9 Hp9 qa0_9 qa1_9 qb0_9 qb1_9 qc0_9 qc1_9 qu0_9 qu1_9 qp0_9 qp1_9 qq0_9 qq1_9 qr0_9 qr1_9)
    | (have hgd := HB8; clear hgd; go_at_call 14; refine (join_ok Ha8.out.rd HRT.out.1 Hc8.out.rd HRT.out.2.2.1 (HT.out.step HB8.out) HE.out.2.1 HE.out.2.2.2.2.1 (by omega)).mono ?_; rintro e w9 ⟨Ar, cr, Dr, dr, rfl, hr9, hb9⟩; have hx9 := below_box hb9 (.cells #[.slice Ar U.length cr, .slice Dr R.length dr] 27); have HB9 := Aside0.mk (below_then HB8.out HB8.out.size hx9); have Ha9 := Aside0.mk (Ha8.out.step hx9); have Hb9 := Aside0.mk (Hb8.out.step hx9); have Hc9 := Aside0.mk (Hc8.out.step hx9); have Hu9 := Aside0.mk (Hu8.out.step hx9); have Hp9 := Aside0.mk (Hp8.out.step hx9); have Hq9 := Aside0.mk (Hq8.out.step hx9); have Hr9 := Aside0.mk (RelBx.new hr9); have qa0_9 := blk2_c0 Ha9.out.blk; have qa1_9 := blk2_c1 Ha9.out.blk; have qb0_9 := blk2_c0 Hb9.out.blk; have qb1_9 := blk2_c1 Hb9.out.blk; have qc0_9 := blk2_c0 Hc9.out.blk; have qc1_9 := blk2_c1 Hc9.out.blk; have qu0_9 := blk2_c0 Hu9.out.blk; have qu1_9 := blk2_c1 Hu9.out.blk; have qp0_9 := blk2_c0 Hp9.out.blk; have qp1_9 := blk2_c1 Hp9.out.blk; have qq0_9 := blk2_c0 Hq9.out.blk; have qq1_9 := blk2_c1 Hq9.out.blk; have qr0_9 := blk2_c0 Hr9.out.blk; have qr1_9 := blk2_c1 Hr9.out.blk; clear hb9 hr9 hx9 Ha8 Hb8 Hc8 Hu8 Hp8 Hq8 qa0_8 qa1_8 qb0_8 qb1_8 qc0_8 qc1_8 qu0_8 qu1_8 qp0_8 qp1_8 qq0_8 qq1_8)
    | (have hgd := HB7; clear hgd; go_at_call 14; refine (join_ok Ha7.out.rd HRT.out.1 Hb7.out.rd HRT.out.2.1 (HT.out.step HB7.out) HE.out.2.1 HE.out.2.2.2.1 (by omega)).mono ?_; rintro e w8 ⟨Aq, cq, Dq, dq, rfl, hr8, hb8⟩; have hx8 := below_box hb8 (.cells #[.slice Aq U.length cq, .slice Dq Q.length dq] 27); have HB8 := Aside0.mk (below_then HB7.out HB7.out.size hx8); have Ha8 := Aside0.mk (Ha7.out.step hx8); have Hb8 := Aside0.mk (Hb7.out.step hx8); have Hc8 := Aside0.mk (Hc7.out.step hx8); have Hu8 := Aside0.mk (Hu7.out.step hx8); have Hp8 := Aside0.mk (Hp7.out.step hx8); have Hq8 := Aside0.mk (RelBx.new hr8); have qa0_8 := blk2_c0 Ha8.out.blk; have qa1_8 := blk2_c1 Ha8.out.blk; have qb0_8 := blk2_c0 Hb8.out.blk; have qb1_8 := blk2_c1 Hb8.out.blk; have qc0_8 := blk2_c0 Hc8.out.blk; have qc1_8 := blk2_c1 Hc8.out.blk; have qu0_8 := blk2_c0 Hu8.out.blk; have qu1_8 := blk2_c1 Hu8.out.blk; have qp0_8 := blk2_c0 Hp8.out.blk; have qp1_8 := blk2_c1 Hp8.out.blk; have qq0_8 := blk2_c0 Hq8.out.blk; have qq1_8 := blk2_c1 Hq8.out.blk; clear hb8 hr8 hx8 Ha7 Hb7 Hc7 Hu7 Hp7 qa0_7 qa1_7 qb0_7 qb1_7 qc0_7 qc1_7 qu0_7 qu1_7 qp0_7 qp1_7)
    | (have hgd := HB6; clear hgd; go_at_call 14; refine (join_ok Ha6.out.rd HRT.out.1 Hu6.out.rd HRT.out.2.2.2.1 (HT.out.step HB6.out) HE.out.2.1 HE.out.2.2.1 (by omega)).mono ?_; rintro e w7 ⟨Ap, cp, Dp, dp, rfl, hr7, hb7⟩; have hx7 := below_box hb7 (.cells #[.slice Ap U.length cp, .slice Dp PP.length dp] 27); have HB7 := Aside0.mk (below_then HB6.out HB6.out.size hx7); have Ha7 := Aside0.mk (Ha6.out.step hx7); have Hb7 := Aside0.mk (Hb6.out.step hx7); have Hc7 := Aside0.mk (Hc6.out.step hx7); have Hu7 := Aside0.mk (Hu6.out.step hx7); have Hp7 := Aside0.mk (RelBx.new hr7); have qa0_7 := blk2_c0 Ha7.out.blk; have qa1_7 := blk2_c1 Ha7.out.blk; have qb0_7 := blk2_c0 Hb7.out.blk; have qb1_7 := blk2_c1 Hb7.out.blk; have qc0_7 := blk2_c0 Hc7.out.blk; have qc1_7 := blk2_c1 Hc7.out.blk; have qu0_7 := blk2_c0 Hu7.out.blk; have qu1_7 := blk2_c1 Hu7.out.blk; have qp0_7 := blk2_c0 Hp7.out.blk; have qp1_7 := blk2_c1 Hp7.out.blk; clear hb7 hr7 hx7 Ha6 Hb6 Hc6 Hu6 qa0_6 qa1_6 qb0_6 qb1_6 qc0_6 qc1_6 qu0_6 qu1_6)
    | (have hgd := HB5; clear hgd; go_at_call 18; refine (union_ok Hb5.out.rd HRT.out.2.1 Hc5.out.rd HRT.out.2.2.1 HE.out.1).mono ?_; rintro e w6 ⟨Au, cu, Du, du, rfl, hr6, hb6⟩; have hx6 := below_box hb6 (.cells #[.slice Au SB.length cu, .slice Du V.length du] 27); have HB6 := Aside0.mk (below_then HB5.out HB5.out.size hx6); have Ha6 := Aside0.mk (Ha5.out.step hx6); have Hb6 := Aside0.mk (Hb5.out.step hx6); have Hc6 := Aside0.mk (Hc5.out.step hx6); have Hu6 := Aside0.mk (RelBx.new hr6); have qa0_6 := blk2_c0 Ha6.out.blk; have qa1_6 := blk2_c1 Ha6.out.blk; have qb0_6 := blk2_c0 Hb6.out.blk; have qb1_6 := blk2_c1 Hb6.out.blk; have qc0_6 := blk2_c0 Hc6.out.blk; have qc1_6 := blk2_c1 Hc6.out.blk; have qu0_6 := blk2_c0 Hu6.out.blk; have qu1_6 := blk2_c1 Hu6.out.blk; clear hb6 hr6 hx6 Ha5 Hb5 Hc5 qa0_5 qa1_5 qb0_5 qb1_5 qc0_5 qc1_5)
    | (have hgd := HB4; clear hgd; go_at_call 12; refine (small3_is _ _ sy _ _ more _ Hpy4.out.rd.row Hpy4.out.rd.cap Hmo4.out hc2 HFz.out).mono ?_; rintro e w5 ⟨Ac, cc, Dc, dc, rfl, hr5, hb5⟩; have hx5 := below_box hb5 (.cells #[.slice Ac SB.length cc, .slice Dc Z.length dc] 27); have HB5 := Aside0.mk (below_then HB4.out HB4.out.size hx5); have Ha5 := Aside0.mk (Ha4.out.step hx5); have Hb5 := Aside0.mk (Hb4.out.step hx5); have Hc5 := Aside0.mk (RelBx.new hr5); have qa0_5 := blk2_c0 Ha5.out.blk; have qa1_5 := blk2_c1 Ha5.out.blk; have qb0_5 := blk2_c0 Hb5.out.blk; have qb1_5 := blk2_c1 Hb5.out.blk; have qc0_5 := blk2_c0 Hc5.out.blk; have qc1_5 := blk2_c1 Hc5.out.blk; clear hb5 hr5 hx5 Hpy4 Hmo4 Ha4 Hb4 qpy0_4 qpy1_4 qa0_4 qa1_4 qb0_4 qb1_4)
    | (have hgd := HB3; clear hgd; go_at_call 12; refine (small3_is _ _ sy _ _ ry _ Hpy3.out.rd.row Hpy3.out.rd.cap Hpy3.out.rd.rows Hpy3.out.rd.cap2 HFy.out).mono ?_; rintro e w4 ⟨Ab, cb, Db, db, rfl, hr4, hb4⟩; have hx4 := below_box hb4 (.cells #[.slice Ab SB.length cb, .slice Db Y.length db] 27); have HB4 := Aside0.mk (below_then HB3.out HB3.out.size hx4); have Hpy4 := Aside0.mk (Hpy3.out.step hx4); have Hmo4 := Aside0.mk (Kd.C_below Hmo3.out hx4); have Ha4 := Aside0.mk (Ha3.out.step hx4); have Hb4 := Aside0.mk (RelBx.new hr4); have qpy0_4 := blk2_c0 Hpy4.out.blk; have qpy1_4 := blk2_c1 Hpy4.out.blk; have qa0_4 := blk2_c0 Ha4.out.blk; have qa1_4 := blk2_c1 Ha4.out.blk; have qb0_4 := blk2_c0 Hb4.out.blk; have qb1_4 := blk2_c1 Hb4.out.blk; clear hb4 hr4 hx4 Hpy3 Hmo3 Ha3 qpy0_3 qpy1_3 qa0_3 qa1_3)
    | (have hgd := HB2; clear hgd; go_at_call 12; refine (small3_is _ _ sx _ _ rx _ Hpx2.out.rd.row Hpx2.out.rd.cap Hpx2.out.rd.rows Hpx2.out.rd.cap2 HFx.out).mono ?_; rintro e w3 ⟨Aa, ca, Da, da, rfl, hr3, hb3⟩; have hx3 := below_box hb3 (.cells #[.slice Aa SA.length ca, .slice Da X.length da] 27); have HB3 := Aside0.mk (below_then HB2.out HB2.out.size hx3); have Hpy3 := Aside0.mk (Hpy2.out.step hx3); have Hmo3 := Aside0.mk (Kd.C_below Hmo2.out hx3); have Ha3 := Aside0.mk (RelBx.new hr3); have qpy0_3 := blk2_c0 Hpy3.out.blk; have qpy1_3 := blk2_c1 Hpy3.out.blk; have qa0_3 := blk2_c0 Ha3.out.blk; have qa1_3 := blk2_c1 Ha3.out.blk; clear hb3 hr3 hx3 Hpx2 Hpy2 Hmo2 qpx0_2 qpx1_2 qpy0_2 qpy1_2)
    | (have hgd := HB1; clear hgd; go_at_call 11; refine (shown3_any _ (HT.out.step HB1.out)).mono ?_; rintro e w2 ⟨rfl, hb2⟩; have HB2 := Aside0.mk (below_then HB1.out HB1.out.size hb2); have Hpx2 := Aside0.mk (Hpx1.out.step hb2); have Hpy2 := Aside0.mk (Hpy1.out.step hb2); have Hmo2 := Aside0.mk (Kd.C_below Hmo1.out hb2); have qpx0_2 := blk2_c0 Hpx2.out.blk; have qpx1_2 := blk2_c1 Hpx2.out.blk; have qpy0_2 := blk2_c0 Hpy2.out.blk; have qpy1_2 := blk2_c1 Hpy2.out.blk; clear hb2 Hpx1 Hpy1 Hmo1 qpx0_1 qpx1_1 qpy0_1 qpy1_1))
  clear qa0_10 qa1_10 qb0_10 qb1_10 qc0_10 qc1_10 qu0_10 qu1_10 qp0_10 qp1_10 qv0_10 qv1_10
  generalize w10.alloc (.cells #[.slice Av U.length cv, .slice Dv PP.length dv] 27) = WA at HB10 Ha10 Hb10 Hc10 Hu10 Hp10 Hv10 ⊢
  generalize w3.heap.size = ga at Ha10 ⊢
  generalize w4.heap.size = gb at Hb10 ⊢
  generalize w5.heap.size = gc at Hc10 ⊢
  generalize w6.heap.size = gu at Hu10 ⊢
  generalize w7.heap.size = gp at Hp10 ⊢
  generalize w10.heap.size = gv at Hv10 ⊢
  go_cut [21, 22] (fun s5 s6 wx => ∃ (g : Nat) (A : Option Addr) (c : Nat) (D : Option Addr) (d : Nat), s5 = .pointer (some ⟨g, 0, none⟩) ∧ s6 = .int .i64 0 ∧ Aside0 (RelBx wx g A c SA D d T ∧ Below WA.heap.size WA wx))
  case first =>
    have HST := Aside0.mk (show ∀ {W W1 : World}, (W.cell? ⟨ga, 0, none⟩ = some (.slice Aa SA.length ca) ∧ W.cell? ⟨ga, 1, none⟩ = some (.slice Da X.length da) ∧ W.cell? ⟨gb, 0, none⟩ = some (.slice Ab SB.length cb) ∧ W.cell? ⟨gb, 1, none⟩ = some (.slice Db Y.length db) ∧ W.cell? ⟨gc, 0, none⟩ = some (.slice Ac SB.length cc) ∧ W.cell? ⟨gc, 1, none⟩ = some (.slice Dc Z.length dc) ∧ Below WA.heap.size WA W) → Below W.heap.size W W1 → (W1.cell? ⟨ga, 0, none⟩ = some (.slice Aa SA.length ca) ∧ W1.cell? ⟨ga, 1, none⟩ = some (.slice Da X.length da) ∧ W1.cell? ⟨gb, 0, none⟩ = some (.slice Ab SB.length cb) ∧ W1.cell? ⟨gb, 1, none⟩ = some (.slice Db Y.length db) ∧ W1.cell? ⟨gc, 0, none⟩ = some (.slice Ac SB.length cc) ∧ W1.cell? ⟨gc, 1, none⟩ = some (.slice Dc Z.length dc) ∧ Below WA.heap.size WA W1) from fun {W W1} h hb => ⟨(hb.cell (World.block_lt_of_cell? W _ h.1)).trans h.1, (hb.cell (World.block_lt_of_cell? W _ h.2.1)).trans h.2.1, (hb.cell (World.block_lt_of_cell? W _ h.2.2.1)).trans h.2.2.1, (hb.cell (World.block_lt_of_cell? W _ h.2.2.2.1)).trans h.2.2.2.1, (hb.cell (World.block_lt_of_cell? W _ h.2.2.2.2.1)).trans h.2.2.2.2.1, (hb.cell (World.block_lt_of_cell? W _ h.2.2.2.2.2.1)).trans h.2.2.2.2.2.1, below_then h.2.2.2.2.2.2 h.2.2.2.2.2.2.size hb⟩)
    have HSE := Aside0.mk (show ∀ {W : World} {g : Nat} (i : Nat) (u : Value), (W.cell? ⟨ga, 0, none⟩ = some (.slice Aa SA.length ca) ∧ W.cell? ⟨ga, 1, none⟩ = some (.slice Da X.length da) ∧ W.cell? ⟨gb, 0, none⟩ = some (.slice Ab SB.length cb) ∧ W.cell? ⟨gb, 1, none⟩ = some (.slice Db Y.length db) ∧ W.cell? ⟨gc, 0, none⟩ = some (.slice Ac SB.length cc) ∧ W.cell? ⟨gc, 1, none⟩ = some (.slice Dc Z.length dc) ∧ Below WA.heap.size WA W) → WA.heap.size ≤ g → ((W.setCell ⟨g, i, none⟩ u).cell? ⟨ga, 0, none⟩ = some (.slice Aa SA.length ca) ∧ (W.setCell ⟨g, i, none⟩ u).cell? ⟨ga, 1, none⟩ = some (.slice Da X.length da) ∧ (W.setCell ⟨g, i, none⟩ u).cell? ⟨gb, 0, none⟩ = some (.slice Ab SB.length cb) ∧ (W.setCell ⟨g, i, none⟩ u).cell? ⟨gb, 1, none⟩ = some (.slice Db Y.length db) ∧ (W.setCell ⟨g, i, none⟩ u).cell? ⟨gc, 0, none⟩ = some (.slice Ac SB.length cc) ∧ (W.setCell ⟨g, i, none⟩ u).cell? ⟨gc, 1, none⟩ = some (.slice Dc Z.length dc) ∧ Below WA.heap.size WA (W.setCell ⟨g, i, none⟩ u)) from fun {W g} i u h hg => ⟨cell_set_ne h.1 (by have hl := (Array.getElem?_eq_some_iff.1 Ha10.out.blk).1; show (ga : Nat) ≠ g; omega) i u, cell_set_ne h.2.1 (by have hl := (Array.getElem?_eq_some_iff.1 Ha10.out.blk).1; show (ga : Nat) ≠ g; omega) i u, cell_set_ne h.2.2.1 (by have hl := (Array.getElem?_eq_some_iff.1 Hb10.out.blk).1; show (gb : Nat) ≠ g; omega) i u, cell_set_ne h.2.2.2.1 (by have hl := (Array.getElem?_eq_some_iff.1 Hb10.out.blk).1; show (gb : Nat) ≠ g; omega) i u, cell_set_ne h.2.2.2.2.1 (by have hl := (Array.getElem?_eq_some_iff.1 Hc10.out.blk).1; show (gc : Nat) ≠ g; omega) i u, cell_set_ne h.2.2.2.2.2.1 (by have hl := (Array.getElem?_eq_some_iff.1 Hc10.out.blk).1; show (gc : Nat) ≠ g; omega) i u, h.2.2.2.2.2.2.setCell (p := ⟨g, i, none⟩) hg u⟩)
    have HSB := Aside0.mk (show ∀ {W : World}, (W.cell? ⟨ga, 0, none⟩ = some (.slice Aa SA.length ca) ∧ W.cell? ⟨ga, 1, none⟩ = some (.slice Da X.length da) ∧ W.cell? ⟨gb, 0, none⟩ = some (.slice Ab SB.length cb) ∧ W.cell? ⟨gb, 1, none⟩ = some (.slice Db Y.length db) ∧ W.cell? ⟨gc, 0, none⟩ = some (.slice Ac SB.length cc) ∧ W.cell? ⟨gc, 1, none⟩ = some (.slice Dc Z.length dc) ∧ Below WA.heap.size WA W) → Below WA.heap.size WA W from fun {W} h => h.2.2.2.2.2.2)
    have HS0A := Aside0.mk (show (WA.cell? ⟨ga, 0, none⟩ = some (.slice Aa SA.length ca) ∧ WA.cell? ⟨ga, 1, none⟩ = some (.slice Da X.length da) ∧ WA.cell? ⟨gb, 0, none⟩ = some (.slice Ab SB.length cb) ∧ WA.cell? ⟨gb, 1, none⟩ = some (.slice Db Y.length db) ∧ WA.cell? ⟨gc, 0, none⟩ = some (.slice Ac SB.length cc) ∧ WA.cell? ⟨gc, 1, none⟩ = some (.slice Dc Z.length dc) ∧ Below WA.heap.size WA WA) from ⟨blk2_c0 Ha10.out.blk, blk2_c1 Ha10.out.blk, blk2_c0 Hb10.out.blk, blk2_c1 Hb10.out.blk, blk2_c0 Hc10.out.blk, blk2_c1 Hc10.out.blk, Below.refl _ _⟩)
    have HSDA := Aside0.mk (HST.out HS0A.out (below_drew (Below.refl _ _)))
    have qq0 := HS0A.out.1
    have qq1 := HS0A.out.2.1
    have qq2 := HS0A.out.2.2.1
    have qq3 := HS0A.out.2.2.2.1
    have qq4 := HS0A.out.2.2.2.2.1
    have qq5 := HS0A.out.2.2.2.2.2.1
    go_region_held3 (fun W => W.cell? ⟨ga, 0, none⟩ = some (.slice Aa SA.length ca) ∧ W.cell? ⟨ga, 1, none⟩ = some (.slice Da X.length da) ∧ W.cell? ⟨gb, 0, none⟩ = some (.slice Ab SB.length cb) ∧ W.cell? ⟨gb, 1, none⟩ = some (.slice Db Y.length db) ∧ W.cell? ⟨gc, 0, none⟩ = some (.slice Ac SB.length cc) ∧ W.cell? ⟨gc, 1, none⟩ = some (.slice Dc Z.length dc) ∧ Below WA.heap.size WA W)
      (first | with_reducible exact HS13A.out | with_reducible exact HS12A.out | with_reducible exact HS11A.out | with_reducible exact HSDA.out | with_reducible exact HS0A.out | with_reducible exact HST.out HS13A.out (below_alloc (Below.refl _ _) _) | with_reducible exact HST.out HS12A.out (below_alloc (Below.refl _ _) _) | with_reducible exact HST.out HS11A.out (below_alloc (Below.refl _ _) _) | with_reducible exact HST.out (by assumption) (below_alloc (Below.refl _ _) _) | with_reducible exact HST.out (by assumption) (below_drew (Below.refl _ _)) | with_reducible exact HSE.out _ _ (HSE.out _ _ HS13A.out (by first | assumption | exact Nat.le_refl _)) (by first | assumption | exact Nat.le_refl _))
      (first
        | (have hgd := HS12A; clear hgd; go_at_call 18; refine (union_m (HZ2.out.1.step (by first | exact Below.refl _ _ | exact below_drew (Below.refl _ _) | exact below_alloc (Below.refl _ _) _)) HRT.out.2.2.2.2.2.2.1 (HZ2.out.2.step (by first | exact Below.refl _ _ | exact below_drew (Below.refl _ _) | exact below_alloc (Below.refl _ _) _)) HRT.out.2.2.2.2.2.2.2 HE.out.2.2.2.2.2.2.2.2.1).mono ?_; rintro e w13 ⟨A3, c3, D3, d3, rfl, hm3, hb13⟩; have hS13 := HST.out (by assumption) hb13; have HS13A := Aside0.mk hS13; have HJ := Aside0.mk (And.intro hm3 hb13); have hg13 : WA.heap.size ≤ w13.heap.size := (HSB.out hS13).size; (first | (have hbk := (hb13.block _ (Array.getElem?_eq_some_iff.1 hbk).1).trans hbk) | (have hbk := (hb13.block w12.heap.size (by simp)).trans (heap_alloc_new w12 (.cells #[.slice none 0 0, .slice none 0 0] 27)); have hbl : w12.heap.size < (w12.alloc (.cells #[.slice none 0 0, .slice none 0 0] 27)).heap.size := by simp) | skip); try (have p0 := blk2_c0 hbk; have p1 := blk_fr (i := 0) hbk; have hs0 := blk2_s0 hbk (.slice A3 SA.length c3); have p2 := blk2_c1 hs0; have p3 := blk_fr (i := 1) hs0; have HP := Aside0.mk (And.intro (box_put (r := (SA, T)) hbk hm3 (by first | exact hbl | (simp; done))) (HSB.out (HSE.out 1 (.slice D3 T.length d3) (HSE.out 0 (.slice A3 SA.length c3) hS13 (at_le hbk (by first | exact Nat.le_refl _ | assumption))) (at_le hbk (by first | exact Nat.le_refl _ | assumption))))); clear hs0 hbk); clear hm3 hb13; clear hS13)
        | (have hgd := HS11A; clear hgd; go_at_call 13; refine (semi_rt (Ha10.out.rd.step (HSB.out (by assumption))) HRT.out.1 (Hc10.out.rd.step (HSB.out (by assumption))) HRT.out.2.2.1 (HT.out.step (below_then HB10.out HB10.out.size (HSB.out (by assumption)))) HE.out.2.2.2.2.2.2.2.1).mono ?_; rintro e w12 ⟨E2, e2, F2, f2, rfl, hz2, hb12⟩; have hS12 := HST.out (by assumption) hb12; have HS12A := Aside0.mk hS12; have hbx12 : Below w11.heap.size w11 w12 := (by first | exact hb12 | exact below_then (below_alloc (Below.refl _ _) _) (by simp) hb12); have HZ2 := Aside0.mk (And.intro (HZ1.out.step hbx12) hz2); have hg12 : WA.heap.size ≤ w12.heap.size := (HSB.out hS12).size; (first | (have hbk := (hb12.block _ (Array.getElem?_eq_some_iff.1 hbk).1).trans hbk) | (have hbk := (hb12.block w11.heap.size (by simp)).trans (heap_alloc_new w11 (.cells #[.slice none 0 0, .slice none 0 0] 27)); have hbl : w11.heap.size < (w11.alloc (.cells #[.slice none 0 0, .slice none 0 0] 27)).heap.size := by simp) | skip); try (have hbl := (Array.getElem?_eq_some_iff.1 hbk).1); clear hz2 hbx12 hb12; clear hS12)
        | (go_at_call 13; refine (semi_rt (Ha10.out.rd.step (HSB.out (by assumption))) HRT.out.1 (Hb10.out.rd.step (HSB.out (by assumption))) HRT.out.2.1 (HT.out.step (below_then HB10.out HB10.out.size (HSB.out (by assumption)))) HE.out.2.2.2.2.2.2.1).mono ?_; rintro e w11 ⟨E1, e1, F1, f1, rfl, hz1, hb11⟩; have hS11 := HST.out (by assumption) hb11; have HS11A := Aside0.mk hS11; have HZ1 := Aside0.mk hz1; have hg11 : WA.heap.size ≤ w11.heap.size := (HSB.out hS11).size; try (have hbk := (hb11.block WA.heap.size (by simp)).trans (heap_alloc_new WA.drew (.cells #[.slice none 0 0, .slice none 0 0] 27)); have hbl := (Array.getElem?_eq_some_iff.1 hbk).1); clear hz1 hb11; clear hS11))
    all_goals
      first
      | (have hgd := HP; clear hgd; (try (go_wp2_with fail)); go_meet; case rel => exact ⟨_, _, _, _, _, rfl, rfl, ⟨HP.out.1, HP.out.2⟩⟩)
      | ((try (go_wp2_with fail)); go_meet; case rel => exact ⟨w13.heap.size, _, _, _, _, rfl, rfl, ⟨RelBx.new (RelM.rd' HJ.out.1), below_alloc (HSB.out HS13A.out) _⟩⟩)
  case rest =>
    obtain ⟨gs, As, cs, Ds, ds, rfl, rfl, HR⟩ := hcut
    have HB := Aside0.mk (below_then HB10.out HB10.out.size HR.out.2)
    have Ka := Aside0.mk (Ha10.out.step HR.out.2)
    have Kp := Aside0.mk (Hp10.out.step HR.out.2)
    have Ku := Aside0.mk (Hu10.out.step HR.out.2)
    have Kv := Aside0.mk (Hv10.out.step HR.out.2)
    have Ks := Aside0.mk HR.out.1
    clear HR HB10 Ha10 Hb10 Hc10 Hu10 Hp10 Hv10
    rename World => WB
    go_upto_region 13 with fail
    have HST := Aside0.mk (show ∀ {W W1 : World}, (W.cell? ⟨ga, 0, none⟩ = some (.slice Aa SA.length ca) ∧ W.cell? ⟨ga, 1, none⟩ = some (.slice Da X.length da) ∧ W.cell? ⟨gp, 0, none⟩ = some (.slice Ap U.length cp) ∧ W.cell? ⟨gp, 1, none⟩ = some (.slice Dp PP.length dp) ∧ W.cell? ⟨gu, 0, none⟩ = some (.slice Au SB.length cu) ∧ W.cell? ⟨gu, 1, none⟩ = some (.slice Du V.length du) ∧ W.cell? ⟨gv, 0, none⟩ = some (.slice Av U.length cv) ∧ W.cell? ⟨gv, 1, none⟩ = some (.slice Dv PP.length dv) ∧ W.cell? ⟨gs, 0, none⟩ = some (.slice As SA.length cs) ∧ W.cell? ⟨gs, 1, none⟩ = some (.slice Ds T.length ds) ∧ Below WB.heap.size WB W) → Below W.heap.size W W1 → (W1.cell? ⟨ga, 0, none⟩ = some (.slice Aa SA.length ca) ∧ W1.cell? ⟨ga, 1, none⟩ = some (.slice Da X.length da) ∧ W1.cell? ⟨gp, 0, none⟩ = some (.slice Ap U.length cp) ∧ W1.cell? ⟨gp, 1, none⟩ = some (.slice Dp PP.length dp) ∧ W1.cell? ⟨gu, 0, none⟩ = some (.slice Au SB.length cu) ∧ W1.cell? ⟨gu, 1, none⟩ = some (.slice Du V.length du) ∧ W1.cell? ⟨gv, 0, none⟩ = some (.slice Av U.length cv) ∧ W1.cell? ⟨gv, 1, none⟩ = some (.slice Dv PP.length dv) ∧ W1.cell? ⟨gs, 0, none⟩ = some (.slice As SA.length cs) ∧ W1.cell? ⟨gs, 1, none⟩ = some (.slice Ds T.length ds) ∧ Below WB.heap.size WB W1) from fun {W W1} h hb => ⟨(hb.cell (World.block_lt_of_cell? W _ h.1)).trans h.1, (hb.cell (World.block_lt_of_cell? W _ h.2.1)).trans h.2.1, (hb.cell (World.block_lt_of_cell? W _ h.2.2.1)).trans h.2.2.1, (hb.cell (World.block_lt_of_cell? W _ h.2.2.2.1)).trans h.2.2.2.1, (hb.cell (World.block_lt_of_cell? W _ h.2.2.2.2.1)).trans h.2.2.2.2.1, (hb.cell (World.block_lt_of_cell? W _ h.2.2.2.2.2.1)).trans h.2.2.2.2.2.1, (hb.cell (World.block_lt_of_cell? W _ h.2.2.2.2.2.2.1)).trans h.2.2.2.2.2.2.1, (hb.cell (World.block_lt_of_cell? W _ h.2.2.2.2.2.2.2.1)).trans h.2.2.2.2.2.2.2.1, (hb.cell (World.block_lt_of_cell? W _ h.2.2.2.2.2.2.2.2.1)).trans h.2.2.2.2.2.2.2.2.1, (hb.cell (World.block_lt_of_cell? W _ h.2.2.2.2.2.2.2.2.2.1)).trans h.2.2.2.2.2.2.2.2.2.1, below_then h.2.2.2.2.2.2.2.2.2.2 h.2.2.2.2.2.2.2.2.2.2.size hb⟩)
    have HSE := Aside0.mk (show ∀ {W : World} {g : Nat} (i : Nat) (u : Value), (W.cell? ⟨ga, 0, none⟩ = some (.slice Aa SA.length ca) ∧ W.cell? ⟨ga, 1, none⟩ = some (.slice Da X.length da) ∧ W.cell? ⟨gp, 0, none⟩ = some (.slice Ap U.length cp) ∧ W.cell? ⟨gp, 1, none⟩ = some (.slice Dp PP.length dp) ∧ W.cell? ⟨gu, 0, none⟩ = some (.slice Au SB.length cu) ∧ W.cell? ⟨gu, 1, none⟩ = some (.slice Du V.length du) ∧ W.cell? ⟨gv, 0, none⟩ = some (.slice Av U.length cv) ∧ W.cell? ⟨gv, 1, none⟩ = some (.slice Dv PP.length dv) ∧ W.cell? ⟨gs, 0, none⟩ = some (.slice As SA.length cs) ∧ W.cell? ⟨gs, 1, none⟩ = some (.slice Ds T.length ds) ∧ Below WB.heap.size WB W) → WB.heap.size ≤ g → ((W.setCell ⟨g, i, none⟩ u).cell? ⟨ga, 0, none⟩ = some (.slice Aa SA.length ca) ∧ (W.setCell ⟨g, i, none⟩ u).cell? ⟨ga, 1, none⟩ = some (.slice Da X.length da) ∧ (W.setCell ⟨g, i, none⟩ u).cell? ⟨gp, 0, none⟩ = some (.slice Ap U.length cp) ∧ (W.setCell ⟨g, i, none⟩ u).cell? ⟨gp, 1, none⟩ = some (.slice Dp PP.length dp) ∧ (W.setCell ⟨g, i, none⟩ u).cell? ⟨gu, 0, none⟩ = some (.slice Au SB.length cu) ∧ (W.setCell ⟨g, i, none⟩ u).cell? ⟨gu, 1, none⟩ = some (.slice Du V.length du) ∧ (W.setCell ⟨g, i, none⟩ u).cell? ⟨gv, 0, none⟩ = some (.slice Av U.length cv) ∧ (W.setCell ⟨g, i, none⟩ u).cell? ⟨gv, 1, none⟩ = some (.slice Dv PP.length dv) ∧ (W.setCell ⟨g, i, none⟩ u).cell? ⟨gs, 0, none⟩ = some (.slice As SA.length cs) ∧ (W.setCell ⟨g, i, none⟩ u).cell? ⟨gs, 1, none⟩ = some (.slice Ds T.length ds) ∧ Below WB.heap.size WB (W.setCell ⟨g, i, none⟩ u)) from fun {W g} i u h hg => ⟨cell_set_ne h.1 (by have hl := (Array.getElem?_eq_some_iff.1 Ka.out.blk).1; show (ga : Nat) ≠ g; omega) i u, cell_set_ne h.2.1 (by have hl := (Array.getElem?_eq_some_iff.1 Ka.out.blk).1; show (ga : Nat) ≠ g; omega) i u, cell_set_ne h.2.2.1 (by have hl := (Array.getElem?_eq_some_iff.1 Kp.out.blk).1; show (gp : Nat) ≠ g; omega) i u, cell_set_ne h.2.2.2.1 (by have hl := (Array.getElem?_eq_some_iff.1 Kp.out.blk).1; show (gp : Nat) ≠ g; omega) i u, cell_set_ne h.2.2.2.2.1 (by have hl := (Array.getElem?_eq_some_iff.1 Ku.out.blk).1; show (gu : Nat) ≠ g; omega) i u, cell_set_ne h.2.2.2.2.2.1 (by have hl := (Array.getElem?_eq_some_iff.1 Ku.out.blk).1; show (gu : Nat) ≠ g; omega) i u, cell_set_ne h.2.2.2.2.2.2.1 (by have hl := (Array.getElem?_eq_some_iff.1 Kv.out.blk).1; show (gv : Nat) ≠ g; omega) i u, cell_set_ne h.2.2.2.2.2.2.2.1 (by have hl := (Array.getElem?_eq_some_iff.1 Kv.out.blk).1; show (gv : Nat) ≠ g; omega) i u, cell_set_ne h.2.2.2.2.2.2.2.2.1 (by have hl := (Array.getElem?_eq_some_iff.1 Ks.out.blk).1; show (gs : Nat) ≠ g; omega) i u, cell_set_ne h.2.2.2.2.2.2.2.2.2.1 (by have hl := (Array.getElem?_eq_some_iff.1 Ks.out.blk).1; show (gs : Nat) ≠ g; omega) i u, h.2.2.2.2.2.2.2.2.2.2.setCell (p := ⟨g, i, none⟩) hg u⟩)
    have HSB := Aside0.mk (show ∀ {W : World}, (W.cell? ⟨ga, 0, none⟩ = some (.slice Aa SA.length ca) ∧ W.cell? ⟨ga, 1, none⟩ = some (.slice Da X.length da) ∧ W.cell? ⟨gp, 0, none⟩ = some (.slice Ap U.length cp) ∧ W.cell? ⟨gp, 1, none⟩ = some (.slice Dp PP.length dp) ∧ W.cell? ⟨gu, 0, none⟩ = some (.slice Au SB.length cu) ∧ W.cell? ⟨gu, 1, none⟩ = some (.slice Du V.length du) ∧ W.cell? ⟨gv, 0, none⟩ = some (.slice Av U.length cv) ∧ W.cell? ⟨gv, 1, none⟩ = some (.slice Dv PP.length dv) ∧ W.cell? ⟨gs, 0, none⟩ = some (.slice As SA.length cs) ∧ W.cell? ⟨gs, 1, none⟩ = some (.slice Ds T.length ds) ∧ Below WB.heap.size WB W) → Below WB.heap.size WB W from fun {W} h => h.2.2.2.2.2.2.2.2.2.2)
    have HS0A := Aside0.mk (show (WB.cell? ⟨ga, 0, none⟩ = some (.slice Aa SA.length ca) ∧ WB.cell? ⟨ga, 1, none⟩ = some (.slice Da X.length da) ∧ WB.cell? ⟨gp, 0, none⟩ = some (.slice Ap U.length cp) ∧ WB.cell? ⟨gp, 1, none⟩ = some (.slice Dp PP.length dp) ∧ WB.cell? ⟨gu, 0, none⟩ = some (.slice Au SB.length cu) ∧ WB.cell? ⟨gu, 1, none⟩ = some (.slice Du V.length du) ∧ WB.cell? ⟨gv, 0, none⟩ = some (.slice Av U.length cv) ∧ WB.cell? ⟨gv, 1, none⟩ = some (.slice Dv PP.length dv) ∧ WB.cell? ⟨gs, 0, none⟩ = some (.slice As SA.length cs) ∧ WB.cell? ⟨gs, 1, none⟩ = some (.slice Ds T.length ds) ∧ Below WB.heap.size WB WB) from ⟨blk2_c0 Ka.out.blk, blk2_c1 Ka.out.blk, blk2_c0 Kp.out.blk, blk2_c1 Kp.out.blk, blk2_c0 Ku.out.blk, blk2_c1 Ku.out.blk, blk2_c0 Kv.out.blk, blk2_c1 Kv.out.blk, blk2_c0 Ks.out.blk, blk2_c1 Ks.out.blk, Below.refl _ _⟩)
    have HSDA := Aside0.mk (HST.out HS0A.out (below_drew (Below.refl _ _)))
    have qq0 := HS0A.out.1
    have qq1 := HS0A.out.2.1
    have qq2 := HS0A.out.2.2.1
    have qq3 := HS0A.out.2.2.2.1
    have qq4 := HS0A.out.2.2.2.2.1
    have qq5 := HS0A.out.2.2.2.2.2.1
    have qq6 := HS0A.out.2.2.2.2.2.2.1
    have qq7 := HS0A.out.2.2.2.2.2.2.2.1
    have qq8 := HS0A.out.2.2.2.2.2.2.2.2.1
    have qq9 := HS0A.out.2.2.2.2.2.2.2.2.2.1
    go_region_held3 (fun W => W.cell? ⟨ga, 0, none⟩ = some (.slice Aa SA.length ca) ∧ W.cell? ⟨ga, 1, none⟩ = some (.slice Da X.length da) ∧ W.cell? ⟨gp, 0, none⟩ = some (.slice Ap U.length cp) ∧ W.cell? ⟨gp, 1, none⟩ = some (.slice Dp PP.length dp) ∧ W.cell? ⟨gu, 0, none⟩ = some (.slice Au SB.length cu) ∧ W.cell? ⟨gu, 1, none⟩ = some (.slice Du V.length du) ∧ W.cell? ⟨gv, 0, none⟩ = some (.slice Av U.length cv) ∧ W.cell? ⟨gv, 1, none⟩ = some (.slice Dv PP.length dv) ∧ W.cell? ⟨gs, 0, none⟩ = some (.slice As SA.length cs) ∧ W.cell? ⟨gs, 1, none⟩ = some (.slice Ds T.length ds) ∧ Below WB.heap.size WB W)
      (first | with_reducible exact HS22A.out | with_reducible exact HS21A.out | with_reducible exact HS20A.out | with_reducible exact HSDA.out | with_reducible exact HS0A.out | with_reducible exact HST.out HS22A.out (below_alloc (Below.refl _ _) _) | with_reducible exact HST.out HS21A.out (below_alloc (Below.refl _ _) _) | with_reducible exact HST.out HS20A.out (below_alloc (Below.refl _ _) _) | with_reducible exact HST.out (by assumption) (below_alloc (Below.refl _ _) _) | with_reducible exact HST.out (by assumption) (below_drew (Below.refl _ _)))
      (first
        | (have hgd := HS21A; clear hgd; go_at_call 15; refine (same_rt (HZ1.out.step (by first | exact Below.refl _ _ | exact below_drew (Below.refl _ _) | exact below_alloc (Below.refl _ _) _)) (by omega) (Ks.out.rd.step (HSB.out (by assumption))) true (by simp)).mono ?_; rintro e w22 ⟨rfl, hb22⟩; have hS22 := HST.out (by assumption) hb22; have HS22A := Aside0.mk hS22; clear hb22; clear hS22)
        | (have hgd := HS20A; clear hgd; go_at_call 13; refine (semi_rt (Ka.out.rd.step (HSB.out (by assumption))) HRT.out.1 (Ku.out.rd.step (HSB.out (by assumption))) HRT.out.2.2.2.1 (HT.out.step (below_then HB.out HB.out.size (HSB.out (by assumption)))) HE.out.2.2.2.2.2.2.2.2.2).mono ?_; rintro e w21 ⟨E1, e1, F1, f1, rfl, hz1, hb21⟩; have hS21 := HST.out (by assumption) hb21; have HS21A := Aside0.mk hS21; have HZ1 := Aside0.mk hz1; clear hz1 hb21; clear hS21)
        | (go_at_call 15; refine (same_rt (Kp.out.rd.step (HSB.out (by assumption))) (by omega) (Kv.out.rd.step (HSB.out (by assumption))) true (by simp)).mono ?_; rintro e w20 ⟨rfl, hb20⟩; have hS20 := HST.out (by assumption) hb20; have HS20A := Aside0.mk hS20; clear hb20; clear hS20))
    all_goals
      go_wp2
      go_ret
      exact ⟨rfl, below_then HB.out HB.out.size (HSB.out HS22A.out)⟩
end Go.Proofs.YtnmonjincnlhiaaDoor.G

namespace Go.Proofs.YtnmonjincnlhiaaDoor.joinParts
open Go.ChangeShapes Go.WideShapes Go.ChangeAt Go.RowKit Go.Proofs.YtnmonjincnlhiaaDoorW.PrintWords Go.Proofs.YtnmonjincnlhiaaDoorW.PrintLast Go.Proofs.YtnmonjincnlhiaaDoorW.PrintMore Go.Proofs.YtnmonjincnlhiaaDoor.PRefs
set_option linter.unusedVariables false
theorem own : ownKnob Tryd.prog.godebug = none := by kernel_rfl
theorem laidOut : laidOutB Tryd.prog = true := by kernel_rfl
set_option maxRecDepth 100000 in
theorem lifted (os : Os) (started : os.Started) (H : Type) (enc : TypeId × Value → H) :
    ReturnsInHanded {} Tryd.checked os 6 .any (fun w args => (Rows.joinPartsSpec.pre enc Tryd.prog Tryd.f6 [] false w args ∧ laidMetH Tryd.prog G.laidList w) ∧ sizedMet enc Tryd.prog Tryd.f6 (OpenSpec.ofChange Rows.joinPartsSpec) false w args)
      (Rows.joinPartsSpec.post enc Tryd.prog Tryd.f6 false true false false) := by
  refine returnsInHanded_of_change_and (C := Tryd.checked) (X := fun w _ => laidMetH Tryd.prog G.laidList w) (fun _ _ _ hh h => h.of_heap hh) own started (by kernel_rfl) Tryd.func6
    (ChangeSpec.witness_shaped (enc := enc) (C := Tryd.checked) (os := os) (X := fun w _ => laidMetH Tryd.prog G.laidList w) false (World.doorLaid Tryd.prog 400 os) #[.agg #[.slice none 0 0, .slice none 0 0], .agg #[.slice none 0 0, .slice none 0 0], .slice none 0 0] 8 rfl (World.shaped_of_RefB (by kernel_rfl) (by kernel_rfl)) (by kernel_rfl) (by kernel_rfl) (by kernel_rfl) (G.door_met os _)) ?_
  intro W base args ds gs before hval0 hW _ _ hL _
  have htab := G.tab_of hL
  have hval : ∀ (j : Nat) t v, Tryd.f6.params[j]? = some t → args[j]? = some v → Value.okWide Tryd.prog W .any base t v := hval0
  have hW' := hW
  obtain ⟨p, q, hA0, hV, rfl, hfz, hnd⟩ := hW
  have hA : DataW.TrodAll enc Tryd.prog W 0 (fun _ => true) true Tryd.f6.params.toList args.toList ds p := hA0
  rw [Tryd.params6] at hA hval
  obtain ⟨v0, vs0, d0, ds0, p0, q0, hargs, rfl, rfl, h0, r0⟩ := trodAll_cons hA
  obtain ⟨v1, vs1, d1, ds1, p1, q1, rfl, rfl, rfl, h1, r1⟩ := trodAll_cons r0
  obtain ⟨v2, vs2, d2, ds2, p2, q2, rfl, rfl, rfl, h2, r2⟩ := trodAll_cons r1
  obtain ⟨rfl, rfl, rfl⟩ := trodAll_nil r2
  obtain rfl : args = #[v0, v1, v2] := by cases args; simp_all
  obtain ⟨rfl, rfl⟩ := trodVars_none hV
  obtain ⟨cs0, rfl, hcs0⟩ := okWide_struct Tryd.underlying25 (hval 0 25 v0 rfl rfl)
  obtain ⟨cs1, rfl, hcs1⟩ := okWide_struct Tryd.underlying25 (hval 1 25 v1 rfl rfl)
  obtain ⟨a2, len2, cap2, rfl⟩ := okWide_slice Tryd.underlying23 (hval 2 23 v2 rfl rfl)
  have k0 := h0
  have lt0 : ∀ x ∈ p0, x.block < W.heap.size := by obtain ⟨m, hm⟩ := k0; exact DataW.trod_lt m _ _ _ hm
  have k1 := h1
  have lt1 : ∀ x ∈ p1, x.block < W.heap.size := by obtain ⟨m, hm⟩ := k1; exact DataW.trod_lt m _ _ _ hm
  have k2 := h2
  have lt2 : ∀ x ∈ p2, x.block < W.heap.size := by obtain ⟨m, hm⟩ := k2; exact DataW.trod_lt m _ _ _ hm
  obtain ⟨a0, cap0, z0, ar0, capr0, zr0, rfl, c0⟩ : ∃ A c sc A' c' L, cs0 = #[.slice A sc.length c, .slice A' L.length c'] ∧ G.RelRd W A c sc A' c' L := by obtain ⟨m, hm⟩ := h0; exact G.in_part hm
  obtain ⟨a1, cap1, z1, ar1, capr1, zr1, rfl, c1⟩ : ∃ A c sc A' c' L, cs1 = #[.slice A sc.length c, .slice A' L.length c'] ∧ G.RelRd W A c sc A' c' L := by obtain ⟨m, hm⟩ := h1; exact G.in_part hm
  obtain ⟨z2, e2, l2, c2⟩ : ∃ xs : List (List Int), xs.length = len2 ∧ len2 ≤ cap2 ∧ Kd.C G.KL W a2 xs.length xs := by obtain ⟨m, hm⟩ := h2; exact G.in_rows hm
  clear hA0 hval0
  subst e2
  refine (G.joinparts_walk a0 cap0 z0 ar0 capr0 zr0 a1 cap1 z1 ar1 capr1 zr1 a2 cap2 z2 W c0 c1 c2 l2 htab).mono fun e W' ⟨he, bel⟩ => ?_
  subst he
  exact ⟨_, rfl, _, _, _, [], _, [], hW', trodAll_mk1 (shut_bool Tryd.underlying4 _), (trodAll_cons_mk (Below.trod laidOut (by kernel_rfl) (of_decide_eq_true (by kernel_rfl)) k0 bel lt0) (trodAll_cons_mk (Below.trod laidOut (by kernel_rfl) (of_decide_eq_true (by kernel_rfl)) k1 bel lt1) (trodAll_cons_mk (Below.trod laidOut (by kernel_rfl) (of_decide_eq_true (by kernel_rfl)) k2 bel lt2) trodAll_mk0))), rfl, bel.frame _, fun h => by cases h⟩
theorem over : Rows.joinPartsRow.holds Tryd.pinned (OpenSpec.ofChange Rows.joinPartsSpec) :=
  OpenClaim.holds_of_wide 6 Tryd.f6 rfl rfl rfl rfl rfl rfl rfl ⟨rfl, rfl, rfl, rfl, rfl⟩ rfl rfl rfl rfl rfl (by kernel_rfl) Tryd.func6 (by kernel_rfl)
    (of_decide_eq_true (by kernel_rfl)) (by unfold Func.isWrapper; first | (rw [if_pos (by decide +kernel)]; kernel_rfl) | (rw [if_neg (by decide +kernel)]; exact ⟨rfl, rfl⟩))
    (fun os started H enc _ => lifted os started H enc)
theorem proved : Rows.JoinPartsCardSaid :=
  Claim7.holds_tied_plain_at .later [] [.data, .data, .data] true Rows.joinPartsCard.stood.harness false
    over (fun _ h => by cases h) (by kernel_rfl) (fun _ h => by cases h) joinParts_row_tie rfl ⟨rfl, rfl⟩ (by kernel_rfl) rfl
    (fun f fn hf hfn => by
      obtain rfl : f = 6 := Option.some.inj ((show Tryd.prog.funcNamed "arborist/arboristlaw03.JoinParts" = some 6 by kernel_rfl).symm.trans hf) |>.symm
      obtain rfl : fn = Tryd.f6 := (Option.some.inj (Tryd.func6.symm.trans hfn)).symm
      exact ⟨by kernel_rfl, fun j t ht => by
        rw [Tryd.params6] at ht
        have hm : t ∈ [25, 25, 23] := by simpa using Array.mem_of_getElem? ht
        have hall : ([25, 25, 23].all fun u => !Tryd.prog.wantsStandIn u) = true := by kernel_rfl
        exact (show Tryd.prog.wantsStandIn t = false by simpa using List.all_eq_true.1 hall t hm)⟩)
    (by kernel_rfl)
#print axioms proved
end Go.Proofs.YtnmonjincnlhiaaDoor.joinParts
