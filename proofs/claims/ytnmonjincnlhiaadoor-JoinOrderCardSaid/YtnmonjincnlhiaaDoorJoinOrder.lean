/- Proved: for every input the law arboristlaw03.JoinOrder returns true and its arguments read as they did; what the program's tables hold at the start is tied to the program's text. No condition. -/
import Derived.Test.YtnmonjincnlhiaaDoorRows
import Derived.Test.YtnmonjincnlhiaaDoorCards
import Derived.Test.YtnmonjincnlhiaaDoorTie
import Derived.Test.YtnmonjincnlhiaaDoorInPart
import Derived.Deep.Matrix
import Derived.ProofKit
import Derived.OpenShut
import Derived.WalkKit
import Derived.ShutString
import Derived.ChangeOld
import Derived.Below
import Derived.SevenTiedAt
import Derived.Stop.Joined
set_option linter.unusedVariables false
set_option linter.unusedSimpArgs false
namespace Go.Proofs.YtnmonjincnlhiaaDoor.G
open Go.RowKit Go.Proofs.YtnmonjincnlhiaaDoorW.PrintWords Go.Proofs.YtnmonjincnlhiaaDoorW.PrintLast Go.Proofs.YtnmonjincnlhiaaDoorW.PrintMore Go.Proofs.YtnmonjincnlhiaaDoor.PRefs
attribute [local go_sem] min2_mn min_two

set_option maxHeartbeats 4000000 in
set_option maxRecDepth 100000 in
theorem joinorder_walk (A0 : Option Addr) (c0 : Nat) (sx : List Int) (B0 : Option Addr) (d0 : Nat) (rx : List (List Int)) (A1 : Option Addr) (c1 : Nat) (sy : List Int) (B1 : Option Addr) (d1 : Nat) (ry : List (List Int)) (A2 : Option Addr) (c2 : Nat) (sz : List Int) (B2 : Option Addr) (d2 : Nat) (rz : List (List Int)) (w : World) (hr0 : RelRd w A0 c0 sx B0 d0 rx) (hr1 : RelRd w A1 c1 sy B1 d1 ry) (hr2 : RelRd w A2 c2 sz B2 d2 rz) (htab : Tab w) :
    Calls Tryd.prog 8 #[.agg #[.slice A0 sx.length c0, .slice B0 rx.length d0], .agg #[.slice A1 sy.length c1, .slice B1 ry.length d1], .agg #[.slice A2 sz.length c2, .slice B2 rz.length d2]] w fun e w' => e = .returned (.bool true) ∧ Below w.heap.size w w' := by
  have HT := Aside0.mk htab
  clear htab
  obtain ⟨W0, hW0⟩ : ∃ W0, (((w.alloc (.cells #[.slice A0 sx.length c0, .slice B0 rx.length d0] 25)).alloc (.cells #[.slice A1 sy.length c1, .slice B1 ry.length d1] 25)).alloc (.cells #[.slice A2 sz.length c2, .slice B2 rz.length d2] 25)) = W0 := ⟨_, rfl⟩
  have hbe : Below w.heap.size w W0 := by rw [← hW0]; exact below_alloc (below_alloc (below_alloc (Below.refl _ _) _) _) _
  have HB1 := Aside0.mk hbe
  have hk0 : W0.heap[w.heap.size]? = some (.cells #[.slice A0 sx.length c0, .slice B0 rx.length d0] 25 (0, 0)) := by
    rw [← hW0]
    have h0 := heap_alloc_new w (.cells #[.slice A0 sx.length c0, .slice B0 rx.length d0] 25)
    try simp only [World.size_alloc] at h0
    exact ((Below.heap_alloc _ _ _ (by first | (simp; done) | (simp; omega))).trans ((Below.heap_alloc _ _ _ (by first | (simp; done) | (simp; omega))).trans h0))
  have Hpx1 := Aside0.mk (PtBx.mk hk0 (hr0.step hbe))
  have qpx0_1 := blk2_c0 hk0
  have qpx1_1 := blk2_c1 hk0
  have hk1 : W0.heap[w.heap.size + 1]? = some (.cells #[.slice A1 sy.length c1, .slice B1 ry.length d1] 25 (0, 0)) := by
    rw [← hW0]
    have h0 := heap_alloc_new (w.alloc (.cells #[.slice A0 sx.length c0, .slice B0 rx.length d0] 25)) (.cells #[.slice A1 sy.length c1, .slice B1 ry.length d1] 25)
    try simp only [World.size_alloc] at h0
    exact ((Below.heap_alloc _ _ _ (by first | (simp; done) | (simp; omega))).trans h0)
  have Hpy1 := Aside0.mk (PtBx.mk hk1 (hr1.step hbe))
  have qpy0_1 := blk2_c0 hk1
  have qpy1_1 := blk2_c1 hk1
  have hk2 : W0.heap[w.heap.size + 1 + 1]? = some (.cells #[.slice A2 sz.length c2, .slice B2 rz.length d2] 25 (0, 0)) := by
    rw [← hW0]
    have h0 := heap_alloc_new ((w.alloc (.cells #[.slice A0 sx.length c0, .slice B0 rx.length d0] 25)).alloc (.cells #[.slice A1 sy.length c1, .slice B1 ry.length d1] 25)) (.cells #[.slice A2 sz.length c2, .slice B2 rz.length d2] 25)
    try simp only [World.size_alloc] at h0
    exact h0
  have Hpz1 := Aside0.mk (PtBx.mk hk2 (hr2.step hbe))
  have qpz0_1 := blk2_c0 hk2
  have qpz1_1 := blk2_c1 hk2
  clear hbe hk0 hr0 hk1 hr1 hk2 hr2
  have hSx := sm_small sx rx
  have HFx := Aside0.mk (Small3_f sx rx 4000 (Nat.le_refl _))
  generalize smallRows3 (smallS3 sx).length rx = X at *
  generalize smallS3 sx = SA at *
  have hSy := sm_small sy ry
  have HFy := Aside0.mk (Small3_f sy ry 4000 (Nat.le_refl _))
  generalize smallRows3 (smallS3 sy).length ry = Y at *
  generalize smallS3 sy = SB at *
  have hSz := sm_small sz rz
  have HFz := Aside0.mk (Small3_f sz rz 4000 (Nat.le_refl _))
  generalize smallRows3 (smallS3 sz).length rz = Z at *
  generalize smallS3 sz = SC at *
  have hbc := rt_smjoin hSy hSz
  have hbl := sm_join hSy hSz
  have hab := rt_smjoin hSx hSy
  have hRT1 : (joinRows (uni SA SB) (joinRows SA X SB Y) SC Z).length ≤ 144 * 12 := Nat.le_trans (join_len_le _ _ _ _) (Nat.mul_le_mul (sm_join hSx hSy) hSz.l)
  have e1 : uni (uni SC SA) SB = uni (uni SA SB) SC := by rw [uni_assoc hSz.rt.r.1.1 hSx.rt.r.1.1 hSy.rt.r.1.1, uni_comm hSz.rt.r.1.1 hab.r.1.1]
  have e2 : joinRows (uni SC SA) (joinRows SC Z SA X) SB Y = joinRows (uni SA SB) (joinRows SA X SB Y) SC Z := by rw [join_assoc hSz.rt.r hSx.rt.r hSy.rt.r, join_comm hSz.rt.r hab.r]
  have e3 : uni SA (uni SB SC) = uni (uni SA SB) SC := (uni_assoc hSx.rt.r.1.1 hSy.rt.r.1.1 hSz.rt.r.1.1).symm
  have e4 : joinRows SA X (uni SB SC) (joinRows SB Y SC Z) = joinRows (uni SA SB) (joinRows SA X SB Y) SC Z := (join_assoc hSx.rt.r hSy.rt.r hSz.rt.r).symm
  obtain ⟨U, hU⟩ : ∃ U, uni (uni SA SB) SC = U := ⟨_, rfl⟩
  obtain ⟨Q, hQ⟩ : ∃ Q, joinRows (uni SA SB) (joinRows SA X SB Y) SC Z = Q := ⟨_, rfl⟩
  obtain ⟨UB, hUB⟩ : ∃ U, uni SB SC = U := ⟨_, rfl⟩
  obtain ⟨QB, hQB⟩ : ∃ Q, joinRows SB Y SC Z = Q := ⟨_, rfl⟩
  rw [hU] at e1
  rw [hQ] at e2
  rw [hUB, hU] at e3
  rw [hUB, hQB, hQ] at e4
  rw [hUB, hQB] at hbc
  rw [hQB] at hbl
  rw [hQ] at hRT1
  have HE := Aside0.mk (And.intro hU (And.intro hQ (And.intro e1 (And.intro e2 (And.intro hUB (And.intro hQB (And.intro e3 e4)))))))
  have HSM := Aside0.mk (And.intro hSx (And.intro hSy hSz))
  have HRT := Aside0.mk (And.intro hSx.rt (And.intro hSy.rt (And.intro hSz.rt hbc)))
  clear hUB hQB hU hQ e1 e2 e3 e4 hbc hab hSx hSy hSz
  go_enter Tryd.func8, Tryd.ntmps8
  go_wp2_with (first
    | (have hgd := HB10; clear hgd; go_at_call 15; refine (same_rt Hp10.out.rd (by omega) Hs10.out.rd true (by simp)).mono ?_; rintro e w11 ⟨rfl, hb11⟩; have HB11 := Aside0.mk (below_then HB10.out HB10.out.size hb11); clear hb11 Hp10 Hs10 qp0_10 qp1_10 qs0_10 qs1_10)
    | (have hgd := HB9; clear hgd; go_at_call 15; refine (same_rt Hp9.out.rd (by omega) Hq9.out.rd true (by simp)).mono ?_; rintro e w10 ⟨rfl, hb10⟩; have HB10 := Aside0.mk (below_then HB9.out HB9.out.size hb10); have Hp10 := Aside0.mk (Hp9.out.step hb10); have Hs10 := Aside0.mk (Hs9.out.step hb10); have qp0_10 := blk2_c0 Hp10.out.blk; have qp1_10 := blk2_c1 Hp10.out.blk; have qs0_10 := blk2_c0 Hs10.out.blk; have qs1_10 := blk2_c1 Hs10.out.blk; clear hb10 Hq9 Hp9 Hs9 qp0_9 qp1_9 qq0_9 qq1_9 qs0_9 qs1_9)
    | (have hgd := HB8; clear hgd; go_at_call 14; refine (join_ok Ha8.out.rd HRT.out.1 Ht8.out.rd HRT.out.2.2.2 (HT.out.step HB8.out) HE.out.2.2.2.2.2.2.1 HE.out.2.2.2.2.2.2.2 (by omega)).mono ?_; rintro e w9 ⟨As, cs, Ds, ds, rfl, hr9, hb9⟩; have hx9 := below_box hb9 (.cells #[.slice As U.length cs, .slice Ds Q.length ds] 27); have HB9 := Aside0.mk (below_then HB8.out HB8.out.size hx9); have Hp9 := Aside0.mk (Hp8.out.step hx9); have Hq9 := Aside0.mk (Hq8.out.step hx9); have Hs9 := Aside0.mk (RelBx.new hr9); have qp0_9 := blk2_c0 Hp9.out.blk; have qp1_9 := blk2_c1 Hp9.out.blk; have qq0_9 := blk2_c0 Hq9.out.blk; have qq1_9 := blk2_c1 Hq9.out.blk; have qs0_9 := blk2_c0 Hs9.out.blk; have qs1_9 := blk2_c1 Hs9.out.blk; clear hb9 hr9 hx9 Ha8 Ht8 Hp8 Hq8 qa0_8 qa1_8 qp0_8 qp1_8 qq0_8 qq1_8 qt0_8 qt1_8)
    | (have hgd := HB7; clear hgd; go_at_call 14; refine (join_ok Hb7.out.rd HRT.out.2.1 Hc7.out.rd HRT.out.2.2.1 (HT.out.step HB7.out) HE.out.2.2.2.2.1 HE.out.2.2.2.2.2.1 (by omega)).mono ?_; rintro e w8 ⟨At, ct, Dt, dt, rfl, hr8, hb8⟩; have hx8 := below_box hb8 (.cells #[.slice At UB.length ct, .slice Dt QB.length dt] 27); have HB8 := Aside0.mk (below_then HB7.out HB7.out.size hx8); have Ha8 := Aside0.mk (Ha7.out.step hx8); have Hp8 := Aside0.mk (Hp7.out.step hx8); have Hq8 := Aside0.mk (Hq7.out.step hx8); have Ht8 := Aside0.mk (RelBx.new hr8); have qa0_8 := blk2_c0 Ha8.out.blk; have qa1_8 := blk2_c1 Ha8.out.blk; have qp0_8 := blk2_c0 Hp8.out.blk; have qp1_8 := blk2_c1 Hp8.out.blk; have qq0_8 := blk2_c0 Hq8.out.blk; have qq1_8 := blk2_c1 Hq8.out.blk; have qt0_8 := blk2_c0 Ht8.out.blk; have qt1_8 := blk2_c1 Ht8.out.blk; clear hb8 hr8 hx8 Hb7 Hc7 Ha7 Hp7 Hq7 qa0_7 qa1_7 qb0_7 qb1_7 qc0_7 qc1_7 qp0_7 qp1_7 qq0_7 qq1_7)
    | (have hgd := HB6; clear hgd; go_at_call 20; refine (all3_is Hc6.out.rd Ha6.out.rd Hb6.out.rd HSM.out.2.2 HSM.out.1 HSM.out.2.1 (HT.out.step HB6.out) HE.out.2.2.1 HE.out.2.2.2.1 (by simp)).mono ?_; rintro e w7 ⟨Aq, cq, Dq, dq, rfl, hr7, hb7⟩; have hx7 := below_box hb7 (.cells #[.slice Aq U.length cq, .slice Dq Q.length dq] 27); have HB7 := Aside0.mk (below_then HB6.out HB6.out.size hx7); have Ha7 := Aside0.mk (Ha6.out.step hx7); have Hb7 := Aside0.mk (Hb6.out.step hx7); have Hc7 := Aside0.mk (Hc6.out.step hx7); have Hp7 := Aside0.mk (Hp6.out.step hx7); have Hq7 := Aside0.mk (RelBx.new hr7); have qa0_7 := blk2_c0 Ha7.out.blk; have qa1_7 := blk2_c1 Ha7.out.blk; have qb0_7 := blk2_c0 Hb7.out.blk; have qb1_7 := blk2_c1 Hb7.out.blk; have qc0_7 := blk2_c0 Hc7.out.blk; have qc1_7 := blk2_c1 Hc7.out.blk; have qp0_7 := blk2_c0 Hp7.out.blk; have qp1_7 := blk2_c1 Hp7.out.blk; have qq0_7 := blk2_c0 Hq7.out.blk; have qq1_7 := blk2_c1 Hq7.out.blk; clear hb7 hr7 hx7 Ha6 Hb6 Hc6 Hp6 qa0_6 qa1_6 qb0_6 qb1_6 qc0_6 qc1_6 qp0_6 qp1_6)
    | (have hgd := HB5; clear hgd; go_at_call 20; refine (all3_is Ha5.out.rd Hb5.out.rd Hc5.out.rd HSM.out.1 HSM.out.2.1 HSM.out.2.2 (HT.out.step HB5.out) HE.out.1 HE.out.2.1 (by simp)).mono ?_; rintro e w6 ⟨Ap, cp, Dp, dp, rfl, hr6, hb6⟩; have hx6 := below_box hb6 (.cells #[.slice Ap U.length cp, .slice Dp Q.length dp] 27); have HB6 := Aside0.mk (below_then HB5.out HB5.out.size hx6); have Ha6 := Aside0.mk (Ha5.out.step hx6); have Hb6 := Aside0.mk (Hb5.out.step hx6); have Hc6 := Aside0.mk (Hc5.out.step hx6); have Hp6 := Aside0.mk (RelBx.new hr6); have qa0_6 := blk2_c0 Ha6.out.blk; have qa1_6 := blk2_c1 Ha6.out.blk; have qb0_6 := blk2_c0 Hb6.out.blk; have qb1_6 := blk2_c1 Hb6.out.blk; have qc0_6 := blk2_c0 Hc6.out.blk; have qc1_6 := blk2_c1 Hc6.out.blk; have qp0_6 := blk2_c0 Hp6.out.blk; have qp1_6 := blk2_c1 Hp6.out.blk; clear hb6 hr6 hx6 Ha5 Hb5 Hc5 qa0_5 qa1_5 qb0_5 qb1_5 qc0_5 qc1_5)
    | (have hgd := HB4; clear hgd; go_at_call 12; refine (small3_is _ _ sz _ _ rz _ Hpz4.out.rd.row Hpz4.out.rd.cap Hpz4.out.rd.rows Hpz4.out.rd.cap2 HFz.out).mono ?_; rintro e w5 ⟨Ac, cc, Dc, dc, rfl, hr5, hb5⟩; have hx5 := below_box hb5 (.cells #[.slice Ac SC.length cc, .slice Dc Z.length dc] 27); have HB5 := Aside0.mk (below_then HB4.out HB4.out.size hx5); have Ha5 := Aside0.mk (Ha4.out.step hx5); have Hb5 := Aside0.mk (Hb4.out.step hx5); have Hc5 := Aside0.mk (RelBx.new hr5); have qa0_5 := blk2_c0 Ha5.out.blk; have qa1_5 := blk2_c1 Ha5.out.blk; have qb0_5 := blk2_c0 Hb5.out.blk; have qb1_5 := blk2_c1 Hb5.out.blk; have qc0_5 := blk2_c0 Hc5.out.blk; have qc1_5 := blk2_c1 Hc5.out.blk; clear hb5 hr5 hx5 Hpz4 Ha4 Hb4 qpz0_4 qpz1_4 qa0_4 qa1_4 qb0_4 qb1_4)
    | (have hgd := HB3; clear hgd; go_at_call 12; refine (small3_is _ _ sy _ _ ry _ Hpy3.out.rd.row Hpy3.out.rd.cap Hpy3.out.rd.rows Hpy3.out.rd.cap2 HFy.out).mono ?_; rintro e w4 ⟨Ab, cb, Db, db, rfl, hr4, hb4⟩; have hx4 := below_box hb4 (.cells #[.slice Ab SB.length cb, .slice Db Y.length db] 27); have HB4 := Aside0.mk (below_then HB3.out HB3.out.size hx4); have Hpz4 := Aside0.mk (Hpz3.out.step hx4); have Ha4 := Aside0.mk (Ha3.out.step hx4); have Hb4 := Aside0.mk (RelBx.new hr4); have qpz0_4 := blk2_c0 Hpz4.out.blk; have qpz1_4 := blk2_c1 Hpz4.out.blk; have qa0_4 := blk2_c0 Ha4.out.blk; have qa1_4 := blk2_c1 Ha4.out.blk; have qb0_4 := blk2_c0 Hb4.out.blk; have qb1_4 := blk2_c1 Hb4.out.blk; clear hb4 hr4 hx4 Hpy3 Hpz3 Ha3 qpy0_3 qpy1_3 qpz0_3 qpz1_3 qa0_3 qa1_3)
    | (have hgd := HB2; clear hgd; go_at_call 12; refine (small3_is _ _ sx _ _ rx _ Hpx2.out.rd.row Hpx2.out.rd.cap Hpx2.out.rd.rows Hpx2.out.rd.cap2 HFx.out).mono ?_; rintro e w3 ⟨Aa, ca, Da, da, rfl, hr3, hb3⟩; have hx3 := below_box hb3 (.cells #[.slice Aa SA.length ca, .slice Da X.length da] 27); have HB3 := Aside0.mk (below_then HB2.out HB2.out.size hx3); have Hpy3 := Aside0.mk (Hpy2.out.step hx3); have Hpz3 := Aside0.mk (Hpz2.out.step hx3); have Ha3 := Aside0.mk (RelBx.new hr3); have qpy0_3 := blk2_c0 Hpy3.out.blk; have qpy1_3 := blk2_c1 Hpy3.out.blk; have qpz0_3 := blk2_c0 Hpz3.out.blk; have qpz1_3 := blk2_c1 Hpz3.out.blk; have qa0_3 := blk2_c0 Ha3.out.blk; have qa1_3 := blk2_c1 Ha3.out.blk; clear hb3 hr3 hx3 Hpx2 Hpy2 Hpz2 qpx0_2 qpx1_2 qpy0_2 qpy1_2 qpz0_2 qpz1_2)
    | (have hgd := HB1; clear hgd; go_at_call 11; refine (shown3_any _ (HT.out.step HB1.out)).mono ?_; rintro e w2 ⟨rfl, hb2⟩; have HB2 := Aside0.mk (below_then HB1.out HB1.out.size hb2); have Hpx2 := Aside0.mk (Hpx1.out.step hb2); have Hpy2 := Aside0.mk (Hpy1.out.step hb2); have Hpz2 := Aside0.mk (Hpz1.out.step hb2); have qpx0_2 := blk2_c0 Hpx2.out.blk; have qpx1_2 := blk2_c1 Hpx2.out.blk; have qpy0_2 := blk2_c0 Hpy2.out.blk; have qpy1_2 := blk2_c1 Hpy2.out.blk; have qpz0_2 := blk2_c0 Hpz2.out.blk; have qpz1_2 := blk2_c1 Hpz2.out.blk; clear hb2 Hpx1 Hpy1 Hpz1 qpx0_1 qpx1_1 qpy0_1 qpy1_1 qpz0_1 qpz1_1))
  all_goals
    go_ret
    exact ⟨rfl, HB11.out⟩
end Go.Proofs.YtnmonjincnlhiaaDoor.G

namespace Go.Proofs.YtnmonjincnlhiaaDoor.joinOrder
open Go.ChangeShapes Go.WideShapes Go.ChangeAt Go.RowKit Go.Proofs.YtnmonjincnlhiaaDoorW.PrintWords Go.Proofs.YtnmonjincnlhiaaDoorW.PrintLast Go.Proofs.YtnmonjincnlhiaaDoorW.PrintMore Go.Proofs.YtnmonjincnlhiaaDoor.PRefs
set_option linter.unusedVariables false
theorem own : ownKnob Tryd.prog.godebug = none := by kernel_rfl
theorem laidOut : laidOutB Tryd.prog = true := by kernel_rfl
set_option maxRecDepth 100000 in
theorem lifted (os : Os) (started : os.Started) (H : Type) (enc : TypeId × Value → H) :
    ReturnsInHanded {} Tryd.checked os 8 .any (fun w args => (Rows.joinOrderSpec.pre enc Tryd.prog Tryd.f8 [] false w args ∧ laidMetH Tryd.prog G.laidList w) ∧ sizedMet enc Tryd.prog Tryd.f8 (OpenSpec.ofChange Rows.joinOrderSpec) false w args)
      (Rows.joinOrderSpec.post enc Tryd.prog Tryd.f8 false true false false) := by
  refine returnsInHanded_of_change_and (C := Tryd.checked) (X := fun w _ => laidMetH Tryd.prog G.laidList w) (fun _ _ _ hh h => h.of_heap hh) own started (by kernel_rfl) Tryd.func8
    (ChangeSpec.witness_shaped (enc := enc) (C := Tryd.checked) (os := os) (X := fun w _ => laidMetH Tryd.prog G.laidList w) false (World.doorLaid Tryd.prog 400 os) #[.agg #[.slice none 0 0, .slice none 0 0], .agg #[.slice none 0 0, .slice none 0 0], .agg #[.slice none 0 0, .slice none 0 0]] 8 rfl (World.shaped_of_RefB (by kernel_rfl) (by kernel_rfl)) (by kernel_rfl) (by kernel_rfl) (by kernel_rfl) (G.door_met os _)) ?_
  intro W base args ds gs before hval0 hW _ _ hL _
  have htab := G.tab_of hL
  have hval : ∀ (j : Nat) t v, Tryd.f8.params[j]? = some t → args[j]? = some v → Value.okWide Tryd.prog W .any base t v := hval0
  have hW' := hW
  obtain ⟨p, q, hA0, hV, rfl, hfz, hnd⟩ := hW
  have hA : DataW.TrodAll enc Tryd.prog W 0 (fun _ => true) true Tryd.f8.params.toList args.toList ds p := hA0
  rw [Tryd.params8] at hA hval
  obtain ⟨v0, vs0, d0, ds0, p0, q0, hargs, rfl, rfl, h0, r0⟩ := trodAll_cons hA
  obtain ⟨v1, vs1, d1, ds1, p1, q1, rfl, rfl, rfl, h1, r1⟩ := trodAll_cons r0
  obtain ⟨v2, vs2, d2, ds2, p2, q2, rfl, rfl, rfl, h2, r2⟩ := trodAll_cons r1
  obtain ⟨rfl, rfl, rfl⟩ := trodAll_nil r2
  obtain rfl : args = #[v0, v1, v2] := by cases args; simp_all
  obtain ⟨rfl, rfl⟩ := trodVars_none hV
  obtain ⟨cs0, rfl, hcs0⟩ := okWide_struct Tryd.underlying25 (hval 0 25 v0 rfl rfl)
  obtain ⟨cs1, rfl, hcs1⟩ := okWide_struct Tryd.underlying25 (hval 1 25 v1 rfl rfl)
  obtain ⟨cs2, rfl, hcs2⟩ := okWide_struct Tryd.underlying25 (hval 2 25 v2 rfl rfl)
  have k0 := h0
  have lt0 : ∀ x ∈ p0, x.block < W.heap.size := by obtain ⟨m, hm⟩ := k0; exact DataW.trod_lt m _ _ _ hm
  have k1 := h1
  have lt1 : ∀ x ∈ p1, x.block < W.heap.size := by obtain ⟨m, hm⟩ := k1; exact DataW.trod_lt m _ _ _ hm
  have k2 := h2
  have lt2 : ∀ x ∈ p2, x.block < W.heap.size := by obtain ⟨m, hm⟩ := k2; exact DataW.trod_lt m _ _ _ hm
  obtain ⟨a0, cap0, z0, ar0, capr0, zr0, rfl, c0⟩ : ∃ A c sc A' c' L, cs0 = #[.slice A sc.length c, .slice A' L.length c'] ∧ G.RelRd W A c sc A' c' L := by obtain ⟨m, hm⟩ := h0; exact G.in_part hm
  obtain ⟨a1, cap1, z1, ar1, capr1, zr1, rfl, c1⟩ : ∃ A c sc A' c' L, cs1 = #[.slice A sc.length c, .slice A' L.length c'] ∧ G.RelRd W A c sc A' c' L := by obtain ⟨m, hm⟩ := h1; exact G.in_part hm
  obtain ⟨a2, cap2, z2, ar2, capr2, zr2, rfl, c2⟩ : ∃ A c sc A' c' L, cs2 = #[.slice A sc.length c, .slice A' L.length c'] ∧ G.RelRd W A c sc A' c' L := by obtain ⟨m, hm⟩ := h2; exact G.in_part hm
  clear hA0 hval0
  refine (G.joinorder_walk a0 cap0 z0 ar0 capr0 zr0 a1 cap1 z1 ar1 capr1 zr1 a2 cap2 z2 ar2 capr2 zr2 W c0 c1 c2 htab).mono fun e W' ⟨he, bel⟩ => ?_
  subst he
  exact ⟨_, rfl, _, _, _, [], _, [], hW', trodAll_mk1 (shut_bool Tryd.underlying4 _), (trodAll_cons_mk (Below.trod laidOut (by kernel_rfl) (of_decide_eq_true (by kernel_rfl)) k0 bel lt0) (trodAll_cons_mk (Below.trod laidOut (by kernel_rfl) (of_decide_eq_true (by kernel_rfl)) k1 bel lt1) (trodAll_cons_mk (Below.trod laidOut (by kernel_rfl) (of_decide_eq_true (by kernel_rfl)) k2 bel lt2) trodAll_mk0))), rfl, bel.frame _, fun h => by cases h⟩
theorem over : Rows.joinOrderRow.holds Tryd.pinned (OpenSpec.ofChange Rows.joinOrderSpec) :=
  OpenClaim.holds_of_wide 8 Tryd.f8 rfl rfl rfl rfl rfl rfl rfl ⟨rfl, rfl, rfl, rfl, rfl⟩ rfl rfl rfl rfl rfl (by kernel_rfl) Tryd.func8 (by kernel_rfl)
    (of_decide_eq_true (by kernel_rfl)) (by unfold Func.isWrapper; first | (rw [if_pos (by decide +kernel)]; kernel_rfl) | (rw [if_neg (by decide +kernel)]; exact ⟨rfl, rfl⟩))
    (fun os started H enc _ => lifted os started H enc)
theorem proved : Rows.JoinOrderCardSaid :=
  Claim7.holds_tied_plain_at .later [] [.data, .data, .data] true Rows.joinOrderCard.stood.harness false
    over (fun _ h => by cases h) (by kernel_rfl) (fun _ h => by cases h) joinOrder_row_tie rfl ⟨rfl, rfl⟩ (by kernel_rfl) rfl
    (fun f fn hf hfn => by
      obtain rfl : f = 8 := Option.some.inj ((show Tryd.prog.funcNamed "arborist/arboristlaw03.JoinOrder" = some 8 by kernel_rfl).symm.trans hf) |>.symm
      obtain rfl : fn = Tryd.f8 := (Option.some.inj (Tryd.func8.symm.trans hfn)).symm
      exact ⟨by kernel_rfl, fun j t ht => by
        rw [Tryd.params8] at ht
        have hm : t ∈ [25, 25, 25] := by simpa using Array.mem_of_getElem? ht
        have hall : ([25, 25, 25].all fun u => !Tryd.prog.wantsStandIn u) = true := by kernel_rfl
        exact (show Tryd.prog.wantsStandIn t = false by simpa using List.all_eq_true.1 hall t hm)⟩)
    (by kernel_rfl)
#print axioms proved
end Go.Proofs.YtnmonjincnlhiaaDoor.joinOrder
