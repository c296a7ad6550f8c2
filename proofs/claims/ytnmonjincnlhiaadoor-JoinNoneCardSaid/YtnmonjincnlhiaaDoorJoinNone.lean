/- Proved: for every input the law arboristlaw03.JoinNone returns true and its arguments read as they did; what the program's tables hold at the start is tied to the program's text. No condition. -/
import Derived.Test.YtnmonjincnlhiaaDoorRows
import Derived.Test.YtnmonjincnlhiaaDoorCards
import Derived.Test.YtnmonjincnlhiaaDoorTie
import Derived.Test.YtnmonjincnlhiaaDoorInPart
import Derived.Deep.Matrix
import Derived.ProofKit
import Derived.OpenShut
import Derived.WalkKit
import Derived.ShutString
import Derived.ChangeOld
import Derived.Below
import Derived.SevenTiedAt
import Derived.Stop.Joined
set_option linter.unusedVariables false
set_option linter.unusedSimpArgs false
namespace Go.Proofs.YtnmonjincnlhiaaDoor.G
open Go.RowKit Go.Proofs.YtnmonjincnlhiaaDoorW.PrintWords Go.Proofs.YtnmonjincnlhiaaDoorW.PrintLast Go.Proofs.YtnmonjincnlhiaaDoorW.PrintMore Go.Proofs.YtnmonjincnlhiaaDoor.PRefs
attribute [local go_sem] min2_mn min_two

set_option maxHeartbeats 4000000 in
set_option maxRecDepth 100000 in
theorem joinnone_walk (A0 : Option Addr) (c0 : Nat) (sx : List Int) (B0 : Option Addr) (d0 : Nat) (rx : List (List Int)) (A1 : Option Addr) (c1 : Nat) (sy : List Int) (B1 : Option Addr) (d1 : Nat) (ry : List (List Int)) (w : World) (hr0 : RelRd w A0 c0 sx B0 d0 rx) (hr1 : RelRd w A1 c1 sy B1 d1 ry) (htab : Tab w) :
    Calls Tryd.prog 5 #[.agg #[.slice A0 sx.length c0, .slice B0 rx.length d0], .agg #[.slice A1 sy.length c1, .slice B1 ry.length d1]] w fun e w' => e = .returned (.bool true) ∧ Below w.heap.size w w' := by
  have HT := Aside0.mk htab
  clear htab
  obtain ⟨W0, hW0⟩ : ∃ W0, ((w.alloc (.cells #[.slice A0 sx.length c0, .slice B0 rx.length d0] 25)).alloc (.cells #[.slice A1 sy.length c1, .slice B1 ry.length d1] 25)) = W0 := ⟨_, rfl⟩
  have hbe : Below w.heap.size w W0 := by rw [← hW0]; exact below_alloc (below_alloc (Below.refl _ _) _) _
  have HB1 := Aside0.mk hbe
  have hk0 : W0.heap[w.heap.size]? = some (.cells #[.slice A0 sx.length c0, .slice B0 rx.length d0] 25 (0, 0)) := by
    rw [← hW0]
    have h0 := heap_alloc_new w (.cells #[.slice A0 sx.length c0, .slice B0 rx.length d0] 25)
    try simp only [World.size_alloc] at h0
    exact ((Below.heap_alloc _ _ _ (by first | (simp; done) | (simp; omega))).trans h0)
  have Hpx1 := Aside0.mk (PtBx.mk hk0 (hr0.step hbe))
  have qpx0_1 := blk2_c0 hk0
  have qpx1_1 := blk2_c1 hk0
  have hk1 : W0.heap[w.heap.size + 1]? = some (.cells #[.slice A1 sy.length c1, .slice B1 ry.length d1] 25 (0, 0)) := by
    rw [← hW0]
    have h0 := heap_alloc_new (w.alloc (.cells #[.slice A0 sx.length c0, .slice B0 rx.length d0] 25)) (.cells #[.slice A1 sy.length c1, .slice B1 ry.length d1] 25)
    try simp only [World.size_alloc] at h0
    exact h0
  have Hpy1 := Aside0.mk (PtBx.mk hk1 (hr1.step hbe))
  have qpy0_1 := blk2_c0 hk1
  have qpy1_1 := blk2_c1 hk1
  clear hbe hk0 hr0 hk1 hr1
  have hSx := sm_small sx rx
  have HFx := Aside0.mk (Small3_f sx rx 4000 (Nat.le_refl _))
  generalize smallRows3 (smallS3 sx).length rx = X at *
  generalize smallS3 sx = SA at *
  have hSy := sm_small sy []
  have HFy := Aside0.mk (Small3_f sy [] 4000 (Nat.le_refl _))
  have hnil : smallRows3 (smallS3 sy).length [] = [] := rfl
  rw [hnil] at hSy HFy
  generalize smallS3 sy = SB at *
  obtain ⟨b, hb⟩ : ∃ b, ((X.length : Int) == 0) = b := ⟨_, rfl⟩
  have hb2 : decide (projRel SA X SB = projRel SB [] SA) = b := by
    rw [← hb, Bool.eq_iff_iff, decide_eq_true_eq, agree_none hSx.rt.r.1.1 hSy.rt.r.1.1, beq_iff_eq, ← List.length_eq_zero_iff]
    omega
  have hag : decide (projRel SB [] SA = projRel SA [] SB) = true := decide_eq_true (agree_empty hSy.rt.r.1.1 hSx.rt.r.1.1)
  have hun := uni_comm hSx.rt.r.1.1 hSy.rt.r.1.1
  obtain ⟨U, hU⟩ : ∃ U, uni SA SB = U := ⟨_, rfl⟩
  rw [hU] at hun
  have hrn : Rt SA [] := ⟨⟨hSx.rt.r.1, by simp, List.Pairwise.nil⟩, hSx.rt.s, by simp, by simp [InR]⟩
  have HE := Aside0.mk (And.intro hU (And.intro hun.symm (And.intro (join_none SA X SB) (And.intro (none_join SB SA X) (And.intro (semi_none SA X SB) (And.intro hag hb2))))))
  have HRT := Aside0.mk (And.intro hSx.rt (And.intro hSy.rt hrn))
  have hlX := hSx.l
  have hf0 := rel_field0
  have hf1 := rel_field1
  clear hU hun hag hb2 hSx hSy hrn hnil
  go_enter Tryd.func5, Tryd.ntmps5
  go_wp2_with (first
    | (have hgd := HB5; clear hgd; go_at_call 14; refine (join_ok Hn5.out.rd HRT.out.2.1 Ha5.out.rd HRT.out.1 (HT.out.step HB5.out) HE.out.2.1 HE.out.2.2.2.1 (by simp)).mono ?_; rintro e w6 ⟨Ak, ck, Dk, dk, rfl, hr6, hb6⟩; have hx6 := below_box hb6 (.cells #[.slice Ak U.length ck, .slice Dk 0 dk] 27); have HB6 := Aside0.mk (below_then HB5.out HB5.out.size hx6); have Ha6 := Aside0.mk (Ha5.out.step hx6); have Hn6 := Aside0.mk (Hn5.out.step hx6); have Hj6 := Aside0.mk (Hj5.out.step hx6); have Hk6 := Aside0.mk (RelBx.new hr6); have qa0_6 := blk2_c0 Ha6.out.blk; have qa1_6 := blk2_c1 Ha6.out.blk; have qn0_6 := blk2_c0 Hn6.out.blk; have qn1_6 : _ = some (Value.slice none 0 0) := blk2_c1 Hn6.out.blk; have qj0_6 := blk2_c0 Hj6.out.blk; have qj1_6 : _ = some (Value.slice Dj 0 dj) := blk2_c1 Hj6.out.blk; have qk0_6 := blk2_c0 Hk6.out.blk; have qk1_6 : _ = some (Value.slice Dk 0 dk) := blk2_c1 Hk6.out.blk; clear hb6 hr6 hx6 Ha5 Hn5 Hj5 qa0_5 qa1_5 qn0_5 qn1_5 qj0_5 qj1_5)
    | (have hgd := HB4; clear hgd; go_at_call 14; refine (join_ok Ha4.out.rd HRT.out.1 Hn4.out.rd HRT.out.2.1 (HT.out.step HB4.out) HE.out.1 HE.out.2.2.1 (by simp)).mono ?_; rintro e w5 ⟨Aj, cj, Dj, dj, rfl, hr5, hb5⟩; have hx5 := below_box hb5 (.cells #[.slice Aj U.length cj, .slice Dj 0 dj] 27); have HB5 := Aside0.mk (below_then HB4.out HB4.out.size hx5); have Ha5 := Aside0.mk (Ha4.out.step hx5); have Hn5 := Aside0.mk (Hn4.out.step hx5); have Hj5 := Aside0.mk (RelBx.new hr5); have qa0_5 := blk2_c0 Ha5.out.blk; have qa1_5 := blk2_c1 Ha5.out.blk; have qn0_5 := blk2_c0 Hn5.out.blk; have qn1_5 : _ = some (Value.slice none 0 0) := blk2_c1 Hn5.out.blk; have qj0_5 := blk2_c0 Hj5.out.blk; have qj1_5 : _ = some (Value.slice Dj 0 dj) := blk2_c1 Hj5.out.blk; clear hb5 hr5 hx5 Ha4 Hn4 qa0_4 qa1_4 qn0_4 qn1_4)
    | (have hgd := HB3; clear hgd; go_at_call 12; refine (small3_is _ _ sy none 0 [] _ Hpy3.out.rd.row Hpy3.out.rd.cap (Kd.C_nil _ _) (Nat.le_refl _) HFy.out).mono ?_; rintro e w4 ⟨An, cn, Dz, dz, rfl, hr4, hb4⟩; have hrn0 := RelRd.mk hr4.row hr4.cap (Kd.C_nil KL w4) (Nat.le_refl 0); have hx4 := below_box hb4 (.cells #[.slice An SB.length cn, .slice none 0 0] 27); have HB4 := Aside0.mk (below_then HB3.out HB3.out.size hx4); have Ha4 := Aside0.mk (Ha3.out.step hx4); have Hn4 := Aside0.mk (RelBx.new hrn0); have qa0_4 := blk2_c0 Ha4.out.blk; have qa1_4 := blk2_c1 Ha4.out.blk; have qn0_4 := blk2_c0 Hn4.out.blk; have qn1_4 : _ = some (Value.slice none 0 0) := blk2_c1 Hn4.out.blk; clear hb4 hr4 hrn0 hx4 Hpy3 Ha3 qpy0_3 qpy1_3 qa0_3 qa1_3)
    | (have hgd := HB2; clear hgd; go_at_call 12; refine (small3_is _ _ sx _ _ rx _ Hpx2.out.rd.row Hpx2.out.rd.cap Hpx2.out.rd.rows Hpx2.out.rd.cap2 HFx.out).mono ?_; rintro e w3 ⟨Aa, ca, Da, da, rfl, hr3, hb3⟩; have hx3 := below_box hb3 (.cells #[.slice Aa SA.length ca, .slice Da X.length da] 27); have HB3 := Aside0.mk (below_then HB2.out HB2.out.size hx3); have Hpy3 := Aside0.mk (Hpy2.out.step hx3); have Ha3 := Aside0.mk (RelBx.new hr3); have qpy0_3 := blk2_c0 Hpy3.out.blk; have qpy1_3 := blk2_c1 Hpy3.out.blk; have qa0_3 := blk2_c0 Ha3.out.blk; have qa1_3 := blk2_c1 Ha3.out.blk; clear hb3 hr3 hx3 Hpx2 Hpy2 qpx0_2 qpx1_2 qpy0_2 qpy1_2)
    | (have hgd := HB1; clear hgd; go_at_call 11; refine (shown3_any _ (HT.out.step HB1.out)).mono ?_; rintro e w2 ⟨rfl, hb2⟩; have HB2 := Aside0.mk (below_then HB1.out HB1.out.size hb2); have Hpx2 := Aside0.mk (Hpx1.out.step hb2); have Hpy2 := Aside0.mk (Hpy1.out.step hb2); have qpx0_2 := blk2_c0 Hpx2.out.blk; have qpx1_2 := blk2_c1 Hpx2.out.blk; have qpy0_2 := blk2_c0 Hpy2.out.blk; have qpy1_2 := blk2_c1 Hpy2.out.blk; clear hb2 Hpx1 Hpy1 qpx0_1 qpx1_1 qpy0_1 qpy1_1))
  have ho := RelBx.new (RelRd.mk Ha6.out.rd.row Ha6.out.rd.cap (Kd.C_nil KL (w6.alloc (.cells #[.slice Ak U.length ck, .slice Dk 0 dk] 27))) (Nat.le_refl 0))
  rw [World.size_alloc] at ho
  have hzb := below_alloc (Below.refl _ (w6.alloc (.cells #[.slice Ak U.length ck, .slice Dk 0 dk] 27))) (.cells #[.slice Aa SA.length ca, .slice none 0 0] 27)
  have HZ := Aside0.mk (And.intro (below_alloc HB6.out (.cells #[.slice Aa SA.length ca, .slice none 0 0] 27)) (And.intro (Ha6.out.step hzb) (And.intro (Hn6.out.step hzb) (And.intro (Hj6.out.step hzb) (And.intro (Hk6.out.step hzb) ho)))))
  clear hzb
  clear ho
  clear qa0_6 qa1_6 qn0_6 qn1_6 qj0_6 qj1_6 qk0_6 qk1_6
  obtain ⟨I, hI⟩ : ∃ I : World → Prop, ∀ W, I W ↔ (Below w.heap.size w W ∧ RelBx W w3.heap.size Aa ca SA Da da X ∧ RelBx W w4.heap.size An cn SB none 0 ([] : List (List Int)) ∧ RelBx W w5.heap.size Aj cj U Dj dj ([] : List (List Int)) ∧ RelBx W w6.heap.size Ak ck U Dk dk ([] : List (List Int)) ∧ RelBx W (w6.heap.size + 1) Aa ca SA none 0 ([] : List (List Int))) := ⟨_, fun _ => Iff.rfl⟩
  have hIst : ∀ {W W1 : World}, I W → Below W.heap.size W W1 → I W1 := fun h hb => by
    obtain ⟨h0, h1, h2, h3, h4, h5⟩ := (hI _).1 h
    exact (hI _).2 ⟨below_then h0 h0.size hb, h1.step hb, h2.step hb, h3.step hb, h4.step hb, h5.step hb⟩
  have hIal : ∀ {W : World}, I W → (W.cell? ⟨w3.heap.size, 0, none⟩ = some (.slice Aa SA.length ca) ∧ W.cell? ⟨w3.heap.size, 1, none⟩ = some (.slice Da X.length da) ∧ W.cell? ⟨w4.heap.size, 0, none⟩ = some (.slice An SB.length cn) ∧ W.cell? ⟨w4.heap.size, 1, none⟩ = some (.slice none 0 0) ∧ W.cell? ⟨w5.heap.size, 0, none⟩ = some (.slice Aj U.length cj) ∧ W.cell? ⟨w5.heap.size, 1, none⟩ = some (.slice Dj 0 dj) ∧ W.cell? ⟨w6.heap.size, 0, none⟩ = some (.slice Ak U.length ck) ∧ W.cell? ⟨w6.heap.size, 1, none⟩ = some (.slice Dk 0 dk) ∧ W.cell? ⟨w6.heap.size + 1, 0, none⟩ = some (.slice Aa SA.length ca) ∧ W.cell? ⟨w6.heap.size + 1, 1, none⟩ = some (.slice none 0 0) ∧ I W) := fun h => by
    obtain ⟨h0, h1, h2, h3, h4, h5⟩ := (hI _).1 h
    exact ⟨blk2_c0 h1.blk, blk2_c1 h1.blk, blk2_c0 h2.blk, blk2_c1 h2.blk, blk2_c0 h3.blk, blk2_c1 h3.blk, blk2_c0 h4.blk, blk2_c1 h4.blk, blk2_c0 h5.blk, blk2_c1 h5.blk, h⟩
  have hIof : ∀ {W : World}, (W.cell? ⟨w3.heap.size, 0, none⟩ = some (.slice Aa SA.length ca) ∧ W.cell? ⟨w3.heap.size, 1, none⟩ = some (.slice Da X.length da) ∧ W.cell? ⟨w4.heap.size, 0, none⟩ = some (.slice An SB.length cn) ∧ W.cell? ⟨w4.heap.size, 1, none⟩ = some (.slice none 0 0) ∧ W.cell? ⟨w5.heap.size, 0, none⟩ = some (.slice Aj U.length cj) ∧ W.cell? ⟨w5.heap.size, 1, none⟩ = some (.slice Dj 0 dj) ∧ W.cell? ⟨w6.heap.size, 0, none⟩ = some (.slice Ak U.length ck) ∧ W.cell? ⟨w6.heap.size, 1, none⟩ = some (.slice Dk 0 dk) ∧ W.cell? ⟨w6.heap.size + 1, 0, none⟩ = some (.slice Aa SA.length ca) ∧ W.cell? ⟨w6.heap.size + 1, 1, none⟩ = some (.slice none 0 0) ∧ I W) → I W := fun h => h.2.2.2.2.2.2.2.2.2.2
  have hstep : ∀ {W W1 : World}, (W.cell? ⟨w3.heap.size, 0, none⟩ = some (.slice Aa SA.length ca) ∧ W.cell? ⟨w3.heap.size, 1, none⟩ = some (.slice Da X.length da) ∧ W.cell? ⟨w4.heap.size, 0, none⟩ = some (.slice An SB.length cn) ∧ W.cell? ⟨w4.heap.size, 1, none⟩ = some (.slice none 0 0) ∧ W.cell? ⟨w5.heap.size, 0, none⟩ = some (.slice Aj U.length cj) ∧ W.cell? ⟨w5.heap.size, 1, none⟩ = some (.slice Dj 0 dj) ∧ W.cell? ⟨w6.heap.size, 0, none⟩ = some (.slice Ak U.length ck) ∧ W.cell? ⟨w6.heap.size, 1, none⟩ = some (.slice Dk 0 dk) ∧ W.cell? ⟨w6.heap.size + 1, 0, none⟩ = some (.slice Aa SA.length ca) ∧ W.cell? ⟨w6.heap.size + 1, 1, none⟩ = some (.slice none 0 0) ∧ I W) → Below W.heap.size W W1 → (W1.cell? ⟨w3.heap.size, 0, none⟩ = some (.slice Aa SA.length ca) ∧ W1.cell? ⟨w3.heap.size, 1, none⟩ = some (.slice Da X.length da) ∧ W1.cell? ⟨w4.heap.size, 0, none⟩ = some (.slice An SB.length cn) ∧ W1.cell? ⟨w4.heap.size, 1, none⟩ = some (.slice none 0 0) ∧ W1.cell? ⟨w5.heap.size, 0, none⟩ = some (.slice Aj U.length cj) ∧ W1.cell? ⟨w5.heap.size, 1, none⟩ = some (.slice Dj 0 dj) ∧ W1.cell? ⟨w6.heap.size, 0, none⟩ = some (.slice Ak U.length ck) ∧ W1.cell? ⟨w6.heap.size, 1, none⟩ = some (.slice Dk 0 dk) ∧ W1.cell? ⟨w6.heap.size + 1, 0, none⟩ = some (.slice Aa SA.length ca) ∧ W1.cell? ⟨w6.heap.size + 1, 1, none⟩ = some (.slice none 0 0) ∧ I W1) := fun h hb => hIal (hIst (hIof h) hb)
  have gB : ∀ {W : World}, (W.cell? ⟨w3.heap.size, 0, none⟩ = some (.slice Aa SA.length ca) ∧ W.cell? ⟨w3.heap.size, 1, none⟩ = some (.slice Da X.length da) ∧ W.cell? ⟨w4.heap.size, 0, none⟩ = some (.slice An SB.length cn) ∧ W.cell? ⟨w4.heap.size, 1, none⟩ = some (.slice none 0 0) ∧ W.cell? ⟨w5.heap.size, 0, none⟩ = some (.slice Aj U.length cj) ∧ W.cell? ⟨w5.heap.size, 1, none⟩ = some (.slice Dj 0 dj) ∧ W.cell? ⟨w6.heap.size, 0, none⟩ = some (.slice Ak U.length ck) ∧ W.cell? ⟨w6.heap.size, 1, none⟩ = some (.slice Dk 0 dk) ∧ W.cell? ⟨w6.heap.size + 1, 0, none⟩ = some (.slice Aa SA.length ca) ∧ W.cell? ⟨w6.heap.size + 1, 1, none⟩ = some (.slice none 0 0) ∧ I W) → Below w.heap.size w W := fun h => ((hI _).1 (hIof h)).1
  have ga : ∀ {W : World}, (W.cell? ⟨w3.heap.size, 0, none⟩ = some (.slice Aa SA.length ca) ∧ W.cell? ⟨w3.heap.size, 1, none⟩ = some (.slice Da X.length da) ∧ W.cell? ⟨w4.heap.size, 0, none⟩ = some (.slice An SB.length cn) ∧ W.cell? ⟨w4.heap.size, 1, none⟩ = some (.slice none 0 0) ∧ W.cell? ⟨w5.heap.size, 0, none⟩ = some (.slice Aj U.length cj) ∧ W.cell? ⟨w5.heap.size, 1, none⟩ = some (.slice Dj 0 dj) ∧ W.cell? ⟨w6.heap.size, 0, none⟩ = some (.slice Ak U.length ck) ∧ W.cell? ⟨w6.heap.size, 1, none⟩ = some (.slice Dk 0 dk) ∧ W.cell? ⟨w6.heap.size + 1, 0, none⟩ = some (.slice Aa SA.length ca) ∧ W.cell? ⟨w6.heap.size + 1, 1, none⟩ = some (.slice none 0 0) ∧ I W) → RelBx W w3.heap.size Aa ca SA Da da X := fun h => ((hI _).1 (hIof h)).2.1
  have gn : ∀ {W : World}, (W.cell? ⟨w3.heap.size, 0, none⟩ = some (.slice Aa SA.length ca) ∧ W.cell? ⟨w3.heap.size, 1, none⟩ = some (.slice Da X.length da) ∧ W.cell? ⟨w4.heap.size, 0, none⟩ = some (.slice An SB.length cn) ∧ W.cell? ⟨w4.heap.size, 1, none⟩ = some (.slice none 0 0) ∧ W.cell? ⟨w5.heap.size, 0, none⟩ = some (.slice Aj U.length cj) ∧ W.cell? ⟨w5.heap.size, 1, none⟩ = some (.slice Dj 0 dj) ∧ W.cell? ⟨w6.heap.size, 0, none⟩ = some (.slice Ak U.length ck) ∧ W.cell? ⟨w6.heap.size, 1, none⟩ = some (.slice Dk 0 dk) ∧ W.cell? ⟨w6.heap.size + 1, 0, none⟩ = some (.slice Aa SA.length ca) ∧ W.cell? ⟨w6.heap.size + 1, 1, none⟩ = some (.slice none 0 0) ∧ I W) → RelBx W w4.heap.size An cn SB none 0 ([] : List (List Int)) := fun h => ((hI _).1 (hIof h)).2.2.1
  have gj : ∀ {W : World}, (W.cell? ⟨w3.heap.size, 0, none⟩ = some (.slice Aa SA.length ca) ∧ W.cell? ⟨w3.heap.size, 1, none⟩ = some (.slice Da X.length da) ∧ W.cell? ⟨w4.heap.size, 0, none⟩ = some (.slice An SB.length cn) ∧ W.cell? ⟨w4.heap.size, 1, none⟩ = some (.slice none 0 0) ∧ W.cell? ⟨w5.heap.size, 0, none⟩ = some (.slice Aj U.length cj) ∧ W.cell? ⟨w5.heap.size, 1, none⟩ = some (.slice Dj 0 dj) ∧ W.cell? ⟨w6.heap.size, 0, none⟩ = some (.slice Ak U.length ck) ∧ W.cell? ⟨w6.heap.size, 1, none⟩ = some (.slice Dk 0 dk) ∧ W.cell? ⟨w6.heap.size + 1, 0, none⟩ = some (.slice Aa SA.length ca) ∧ W.cell? ⟨w6.heap.size + 1, 1, none⟩ = some (.slice none 0 0) ∧ I W) → RelBx W w5.heap.size Aj cj U Dj dj ([] : List (List Int)) := fun h => ((hI _).1 (hIof h)).2.2.2.1
  have gk : ∀ {W : World}, (W.cell? ⟨w3.heap.size, 0, none⟩ = some (.slice Aa SA.length ca) ∧ W.cell? ⟨w3.heap.size, 1, none⟩ = some (.slice Da X.length da) ∧ W.cell? ⟨w4.heap.size, 0, none⟩ = some (.slice An SB.length cn) ∧ W.cell? ⟨w4.heap.size, 1, none⟩ = some (.slice none 0 0) ∧ W.cell? ⟨w5.heap.size, 0, none⟩ = some (.slice Aj U.length cj) ∧ W.cell? ⟨w5.heap.size, 1, none⟩ = some (.slice Dj 0 dj) ∧ W.cell? ⟨w6.heap.size, 0, none⟩ = some (.slice Ak U.length ck) ∧ W.cell? ⟨w6.heap.size, 1, none⟩ = some (.slice Dk 0 dk) ∧ W.cell? ⟨w6.heap.size + 1, 0, none⟩ = some (.slice Aa SA.length ca) ∧ W.cell? ⟨w6.heap.size + 1, 1, none⟩ = some (.slice none 0 0) ∧ I W) → RelBx W w6.heap.size Ak ck U Dk dk ([] : List (List Int)) := fun h => ((hI _).1 (hIof h)).2.2.2.2.1
  have go : ∀ {W : World}, (W.cell? ⟨w3.heap.size, 0, none⟩ = some (.slice Aa SA.length ca) ∧ W.cell? ⟨w3.heap.size, 1, none⟩ = some (.slice Da X.length da) ∧ W.cell? ⟨w4.heap.size, 0, none⟩ = some (.slice An SB.length cn) ∧ W.cell? ⟨w4.heap.size, 1, none⟩ = some (.slice none 0 0) ∧ W.cell? ⟨w5.heap.size, 0, none⟩ = some (.slice Aj U.length cj) ∧ W.cell? ⟨w5.heap.size, 1, none⟩ = some (.slice Dj 0 dj) ∧ W.cell? ⟨w6.heap.size, 0, none⟩ = some (.slice Ak U.length ck) ∧ W.cell? ⟨w6.heap.size, 1, none⟩ = some (.slice Dk 0 dk) ∧ W.cell? ⟨w6.heap.size + 1, 0, none⟩ = some (.slice Aa SA.length ca) ∧ W.cell? ⟨w6.heap.size + 1, 1, none⟩ = some (.slice none 0 0) ∧ I W) → RelBx W (w6.heap.size + 1) Aa ca SA none 0 ([] : List (List Int)) := fun h => ((hI _).1 (hIof h)).2.2.2.2.2
  replace hI := Aside0.mk @hI
  replace hIst := Aside0.mk @hIst
  replace hIal := Aside0.mk @hIal
  replace hIof := Aside0.mk @hIof
  replace hstep := Aside0.mk @hstep
  replace gB := Aside0.mk @gB
  replace ga := Aside0.mk @ga
  replace gn := Aside0.mk @gn
  replace gj := Aside0.mk @gj
  replace gk := Aside0.mk @gk
  replace go := Aside0.mk @go
  have HS0A := Aside0.mk (hIal.out ((hI.out _).2 ⟨HZ.out.1, HZ.out.2.1, HZ.out.2.2.1, HZ.out.2.2.2.1, HZ.out.2.2.2.2.1, HZ.out.2.2.2.2.2⟩))
  have HSDA := Aside0.mk (hstep.out HS0A.out (below_drew (Below.refl _ _)))
  go_region_held3 (fun W => W.cell? ⟨w3.heap.size, 0, none⟩ = some (.slice Aa SA.length ca) ∧ W.cell? ⟨w3.heap.size, 1, none⟩ = some (.slice Da X.length da) ∧ W.cell? ⟨w4.heap.size, 0, none⟩ = some (.slice An SB.length cn) ∧ W.cell? ⟨w4.heap.size, 1, none⟩ = some (.slice none 0 0) ∧ W.cell? ⟨w5.heap.size, 0, none⟩ = some (.slice Aj U.length cj) ∧ W.cell? ⟨w5.heap.size, 1, none⟩ = some (.slice Dj 0 dj) ∧ W.cell? ⟨w6.heap.size, 0, none⟩ = some (.slice Ak U.length ck) ∧ W.cell? ⟨w6.heap.size, 1, none⟩ = some (.slice Dk 0 dk) ∧ W.cell? ⟨w6.heap.size + 1, 0, none⟩ = some (.slice Aa SA.length ca) ∧ W.cell? ⟨w6.heap.size + 1, 1, none⟩ = some (.slice none 0 0) ∧ I W)
    (first | with_reducible exact HS4A.out | with_reducible exact HS3A.out | with_reducible exact HS2A.out | with_reducible exact HS1A.out | with_reducible exact HSDA.out | with_reducible exact HS0A.out | with_reducible exact HSB.out | with_reducible exact hstep.out HS4A.out (below_alloc (Below.refl _ _) _) | with_reducible exact hstep.out HS3A.out (below_alloc (Below.refl _ _) _) | with_reducible exact hstep.out HS2A.out (below_alloc (Below.refl _ _) _) | with_reducible exact hstep.out HS1A.out (below_alloc (Below.refl _ _) _) | with_reducible exact hstep.out (by assumption) (below_alloc (Below.refl _ _) _) | with_reducible exact hstep.out (by assumption) (below_drew (Below.refl _ _)))
    (first
      | (have hgd := HS3A; clear hgd; go_at_call 17; refine (agree_rt (ga.out (by assumption)).rd HRT.out.1 (gn.out (by assumption)).rd HRT.out.2.1 b HE.out.2.2.2.2.2.2).mono ?_; rintro e v4 ⟨rfl, hb4⟩; have hS4 := hstep.out (by assumption) hb4; have HS4A := Aside0.mk hS4; clear hS4 hb4)
      | (have hgd := HS2A; clear hgd; go_at_call 17; refine (agree_rt (gn.out (by assumption)).rd HRT.out.2.1 (go.out (by assumption)).rd HRT.out.2.2 true HE.out.2.2.2.2.2.1).mono ?_; rintro e v3 ⟨rfl, hb3⟩; have hS3 := hstep.out (by assumption) hb3; have HS3A := Aside0.mk hS3; clear hS3 hb3)
      | (have hgd := HS1A; clear hgd; go_at_call 13; refine (semi_rt (ga.out (by assumption)).rd HRT.out.1 (gn.out (by assumption)).rd HRT.out.2.1 (HT.out.step (gB.out (by assumption))) HE.out.2.2.2.2.1).mono ?_; rintro e v2 ⟨Au, cu, Du, du, rfl, hr2, hb2⟩; have Hu := Aside0.mk hr2; have hS2 := hstep.out (by assumption) hb2; have HS2A := Aside0.mk hS2; clear hS2 hb2 hr2)
      | (go_at_call 15; refine (same_rt (gj.out (by assumption)).rd (by simp) (gk.out (by assumption)).rd true (by simp)).mono ?_; rintro e v1 ⟨rfl, hb1⟩; have hS1 := hstep.out (by assumption) hb1; have HS1A := Aside0.mk hS1; clear hS1 hb1))
  all_goals
    go_wp2
    go_ret
    exact ⟨by cases b <;> rfl, gB.out HS4A.out⟩
end Go.Proofs.YtnmonjincnlhiaaDoor.G

namespace Go.Proofs.YtnmonjincnlhiaaDoor.joinNone
open Go.ChangeShapes Go.WideShapes Go.ChangeAt Go.RowKit Go.Proofs.YtnmonjincnlhiaaDoorW.PrintWords Go.Proofs.YtnmonjincnlhiaaDoorW.PrintLast Go.Proofs.YtnmonjincnlhiaaDoorW.PrintMore Go.Proofs.YtnmonjincnlhiaaDoor.PRefs
set_option linter.unusedVariables false
theorem own : ownKnob Tryd.prog.godebug = none := by kernel_rfl
theorem laidOut : laidOutB Tryd.prog = true := by kernel_rfl
set_option maxRecDepth 100000 in
theorem lifted (os : Os) (started : os.Started) (H : Type) (enc : TypeId × Value → H) :
    ReturnsInHanded {} Tryd.checked os 5 .any (fun w args => (Rows.joinNoneSpec.pre enc Tryd.prog Tryd.f5 [] false w args ∧ laidMetH Tryd.prog G.laidList w) ∧ sizedMet enc Tryd.prog Tryd.f5 (OpenSpec.ofChange Rows.joinNoneSpec) false w args)
      (Rows.joinNoneSpec.post enc Tryd.prog Tryd.f5 false true false false) := by
  refine returnsInHanded_of_change_and (C := Tryd.checked) (X := fun w _ => laidMetH Tryd.prog G.laidList w) (fun _ _ _ hh h => h.of_heap hh) own started (by kernel_rfl) Tryd.func5
    (ChangeSpec.witness_shaped (enc := enc) (C := Tryd.checked) (os := os) (X := fun w _ => laidMetH Tryd.prog G.laidList w) false (World.doorLaid Tryd.prog 400 os) #[.agg #[.slice none 0 0, .slice none 0 0], .agg #[.slice none 0 0, .slice none 0 0]] 8 rfl (World.shaped_of_RefB (by kernel_rfl) (by kernel_rfl)) (by kernel_rfl) (by kernel_rfl) (by kernel_rfl) (G.door_met os _)) ?_
  intro W base args ds gs before hval0 hW _ _ hL _
  have htab := G.tab_of hL
  have hval : ∀ (j : Nat) t v, Tryd.f5.params[j]? = some t → args[j]? = some v → Value.okWide Tryd.prog W .any base t v := hval0
  have hW' := hW
  obtain ⟨p, q, hA0, hV, rfl, hfz, hnd⟩ := hW
  have hA : DataW.TrodAll enc Tryd.prog W 0 (fun _ => true) true Tryd.f5.params.toList args.toList ds p := hA0
  rw [Tryd.params5] at hA hval
  obtain ⟨v0, vs0, d0, ds0, p0, q0, hargs, rfl, rfl, h0, r0⟩ := trodAll_cons hA
  obtain ⟨v1, vs1, d1, ds1, p1, q1, rfl, rfl, rfl, h1, r1⟩ := trodAll_cons r0
  obtain ⟨rfl, rfl, rfl⟩ := trodAll_nil r1
  obtain rfl : args = #[v0, v1] := by cases args; simp_all
  obtain ⟨rfl, rfl⟩ := trodVars_none hV
  obtain ⟨cs0, rfl, hcs0⟩ := okWide_struct Tryd.underlying25 (hval 0 25 v0 rfl rfl)
  obtain ⟨cs1, rfl, hcs1⟩ := okWide_struct Tryd.underlying25 (hval 1 25 v1 rfl rfl)
  have k0 := h0
  have lt0 : ∀ x ∈ p0, x.block < W.heap.size := by obtain ⟨m, hm⟩ := k0; exact DataW.trod_lt m _ _ _ hm
  have k1 := h1
  have lt1 : ∀ x ∈ p1, x.block < W.heap.size := by obtain ⟨m, hm⟩ := k1; exact DataW.trod_lt m _ _ _ hm
  obtain ⟨a0, cap0, z0, ar0, capr0, zr0, rfl, c0⟩ : ∃ A c sc A' c' L, cs0 = #[.slice A sc.length c, .slice A' L.length c'] ∧ G.RelRd W A c sc A' c' L := by obtain ⟨m, hm⟩ := h0; exact G.in_part hm
  obtain ⟨a1, cap1, z1, ar1, capr1, zr1, rfl, c1⟩ : ∃ A c sc A' c' L, cs1 = #[.slice A sc.length c, .slice A' L.length c'] ∧ G.RelRd W A c sc A' c' L := by obtain ⟨m, hm⟩ := h1; exact G.in_part hm
  clear hA0 hval0
  refine (G.joinnone_walk a0 cap0 z0 ar0 capr0 zr0 a1 cap1 z1 ar1 capr1 zr1 W c0 c1 htab).mono fun e W' ⟨he, bel⟩ => ?_
  subst he
  exact ⟨_, rfl, _, _, _, [], _, [], hW', trodAll_mk1 (shut_bool Tryd.underlying4 _), (trodAll_cons_mk (Below.trod laidOut (by kernel_rfl) (of_decide_eq_true (by kernel_rfl)) k0 bel lt0) (trodAll_cons_mk (Below.trod laidOut (by kernel_rfl) (of_decide_eq_true (by kernel_rfl)) k1 bel lt1) trodAll_mk0)), rfl, bel.frame _, fun h => by cases h⟩
theorem over : Rows.joinNoneRow.holds Tryd.pinned (OpenSpec.ofChange Rows.joinNoneSpec) :=
  OpenClaim.holds_of_wide 5 Tryd.f5 rfl rfl rfl rfl rfl rfl rfl ⟨rfl, rfl, rfl, rfl, rfl⟩ rfl rfl rfl rfl rfl (by kernel_rfl) Tryd.func5 (by kernel_rfl)
    (of_decide_eq_true (by kernel_rfl)) (by unfold Func.isWrapper; first | (rw [if_pos (by decide +kernel)]; kernel_rfl) | (rw [if_neg (by decide +kernel)]; exact ⟨rfl, rfl⟩))
    (fun os started H enc _ => lifted os started H enc)
theorem proved : Rows.JoinNoneCardSaid :=
  Claim7.holds_tied_plain_at .later [] [.data, .data, .data] true Rows.joinNoneCard.stood.harness false
    over (fun _ h => by cases h) (by kernel_rfl) (fun _ h => by cases h) joinNone_row_tie rfl ⟨rfl, rfl⟩ (by kernel_rfl) rfl
    (fun f fn hf hfn => by
      obtain rfl : f = 5 := Option.some.inj ((show Tryd.prog.funcNamed "arborist/arboristlaw03.JoinNone" = some 5 by kernel_rfl).symm.trans hf) |>.symm
      obtain rfl : fn = Tryd.f5 := (Option.some.inj (Tryd.func5.symm.trans hfn)).symm
      exact ⟨by kernel_rfl, fun j t ht => by
        rw [Tryd.params5] at ht
        have hm : t ∈ [25, 25] := by simpa using Array.mem_of_getElem? ht
        have hall : ([25, 25].all fun u => !Tryd.prog.wantsStandIn u) = true := by kernel_rfl
        exact (show Tryd.prog.wantsStandIn t = false by simpa using List.all_eq_true.1 hall t hm)⟩)
    (by kernel_rfl)
#print axioms proved
end Go.Proofs.YtnmonjincnlhiaaDoor.joinNone
