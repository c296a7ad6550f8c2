/- Proved: for every input the law arboristlaw02.RelUnites returns true and its arguments read as they did. No condition. -/
import Derived.Test.YtlinhcgggfdlpaaRows
import Derived.Test.YtlinhcgggfdlpaaBox
import Derived.Deep.Matrix
import Derived.ProofKit
import Derived.OpenShut
import Derived.WalkKit
import Derived.ShutString
import Derived.ChangeOld
import Derived.Below
set_option linter.unusedVariables false
set_option linter.unusedSimpArgs false
namespace Go.Proofs.Ytlinhcgggfdlpaa.G
open Go.RowKit Go.Proofs.YtlinhcgggfdlpaaW.PrintWords Go.Proofs.YtlinhcgggfdlpaaW.PrintLast Go.Proofs.YtlinhcgggfdlpaaW.PrintMore Go.Proofs.Ytlinhcgggfdlpaa.PRefs
attribute [local go_sem] min2_mn min_two

set_option maxHeartbeats 2000000 in
set_option maxRecDepth 100000 in
theorem relunites_walk (A0 : Option Addr) (c0 : Nat) (sch : List Int) (A1 : Option Addr) (c1 : Nat) (ra : List (List Int)) (A2 : Option Addr) (c2 : Nat) (rb : List (List Int)) (A3 : Option Addr) (c3 : Nat) (rc : List (List Int)) (w : World) (hr0 : Kd.C KI w A0 sch.length sch) (hc0 : sch.length ≤ c0) (hr1 : Kd.C KL w A1 ra.length ra) (hc1 : ra.length ≤ c1) (hr2 : Kd.C KL w A2 rb.length rb) (hc2 : rb.length ≤ c2) (hr3 : Kd.C KL w A3 rc.length rc) (hc3 : rc.length ≤ c3) :
    Calls Try.prog 6 #[.slice A0 sch.length c0, .slice A1 ra.length c1, .slice A2 rb.length c2, .slice A3 rc.length c3] w fun e w' => e = .returned (.bool true) ∧ Below w.heap.size w w' := by
  have HIN := Aside0.mk (And.intro hr0 (And.intro hr1 (And.intro hr2 hr3)))
  have hPX := right_small sch ra
  have hPY := right_small sch rb
  have hPZ := right_small sch rc
  have hzX := sz_small sch ra
  have hzY := sz_small sch rb
  have hzZ := sz_small sch rc
  have HF1 := Aside0.mk (Small_f sch ra 4000 (Nat.le_refl _))
  have HF2 := Aside0.mk (Small_f sch rb 4000 (Nat.le_refl _))
  have HF3 := Aside0.mk (Small_f sch rc 4000 (Nat.le_refl _))
  have hXl := smallRows_len (smallS sch).length ra
  have hYl := smallRows_len (smallS sch).length rb
  have hZl := smallRows_len (smallS sch).length rc
  generalize smallRows (smallS sch).length ra = X at *
  generalize smallRows (smallS sch).length rb = Y at *
  generalize smallRows (smallS sch).length rc = Z at *
  generalize smallS sch = SC at *
  have hsz : ∀ {a b : List (List Int)}, Sz SC a → Sz SC b → a.length + b.length ≤ 10000 → Sz SC (Pl.sortU (a ++ b)) := fun {a b} ha hb hl =>
    ⟨ha.s, by have := Pl.sortU_length_le (a ++ b); rw [List.length_append] at this; omega, fun x hx => (List.mem_append.1 (Pl.mem_sortU.1 hx)).elim (ha.x x) (hb.x x)⟩
  have hpl : (Pl.sortU (X ++ Y)).length ≤ X.length + Y.length := by have := Pl.sortU_length_le (X ++ Y); rwa [List.length_append] at this
  have hsl : (Pl.sortU (Z ++ Y)).length ≤ Z.length + Y.length := by have := Pl.sortU_length_le (Z ++ Y); rwa [List.length_append] at this
  have hzP := hsz hzX hzY (by omega)
  have hzS := hsz hzZ hzY (by omega)
  have hzQ := hsz hzP hzZ (by omega)
  have hzT := hsz hzS hzX (by omega)
  have hPQ := right_union (right_union hPX hPY) hPZ
  have HQ := Aside0.mk (And.intro (unite_swap X Y Z) (unite_has X Y Z))
  obtain ⟨P, hP⟩ : ∃ P, Pl.sortU (X ++ Y) = P := ⟨_, rfl⟩
  obtain ⟨S, hS⟩ : ∃ S, Pl.sortU (Z ++ Y) = S := ⟨_, rfl⟩
  rw [hP, hS] at HQ
  rw [hP] at hzP hzQ hPQ
  rw [hS] at hzS hzT
  obtain ⟨Q, hQ⟩ : ∃ Q, Pl.sortU (P ++ Z) = Q := ⟨_, rfl⟩
  rw [hQ] at HQ hzQ hPQ
  have hT : Pl.sortU (S ++ X) = Q := HQ.out.1.symm
  rw [hT] at hzT
  have HE := Aside0.mk (And.intro hP (And.intro hQ (And.intro hS hT)))
  have hUQ := hPQ.2.2
  clear hP hS hQ hT hpl hsl hsz hPX hPY hPZ hYl hZl
  clear hr0 hr1 hr2 hr3
  have hf1 := rel_field1
  go_enter Try.func6, Try.ntmps6
  go_wp2_with (first
    | (have hgd := HB7; clear hgd; go_at_call 21; refine (unite_is Hs7.out.rd hzS Hx7.out.rd hzX HE.out.2.2.2).mono ?_; rintro e w8 ⟨At, ct, Dt, dt, rfl, hr8, hb8⟩; have hx8 := below_box hb8 (.cells #[.slice At SC.length ct, .slice Dt Q.length dt] 25); have HB8 := Aside0.mk (below_then HB7.out HB7.out.size hx8); have Hx8 := Aside0.mk (Hx7.out.step hx8); have Hq8 := Aside0.mk (Hq7.out.step hx8); have Ht8 := Aside0.mk (RelBx.new hr8); have qx0_8 := blk2_c0 Hx8.out.blk; have qx1_8 := blk2_c1 Hx8.out.blk; have qq0_8 := blk2_c0 Hq8.out.blk; have qq1_8 := blk2_c1 Hq8.out.blk; have qt0_8 := blk2_c0 Ht8.out.blk; have qt1_8 := blk2_c1 Ht8.out.blk; clear hb8 hr8 hx8 Hs7 Hx7 Hq7 qx0_7 qx1_7 qq0_7 qq1_7 qs0_7 qs1_7)
    | (have hgd := HB6; clear hgd; go_at_call 21; refine (unite_is Hz6.out.rd hzZ Hy6.out.rd hzY HE.out.2.2.1).mono ?_; rintro e w7 ⟨As, cs, Ds, ds, rfl, hr7, hb7⟩; have hx7 := below_box hb7 (.cells #[.slice As SC.length cs, .slice Ds S.length ds] 25); have HB7 := Aside0.mk (below_then HB6.out HB6.out.size hx7); have Hx7 := Aside0.mk (Hx6.out.step hx7); have Hq7 := Aside0.mk (Hq6.out.step hx7); have Hs7 := Aside0.mk (RelBx.new hr7); have qx0_7 := blk2_c0 Hx7.out.blk; have qx1_7 := blk2_c1 Hx7.out.blk; have qq0_7 := blk2_c0 Hq7.out.blk; have qq1_7 := blk2_c1 Hq7.out.blk; have qs0_7 := blk2_c0 Hs7.out.blk; have qs1_7 := blk2_c1 Hs7.out.blk; clear hb7 hr7 hx7 Hy6 Hz6 Hx6 Hq6 qx0_6 qx1_6 qy0_6 qy1_6 qz0_6 qz1_6 qq0_6 qq1_6)
    | (have hgd := HB5; clear hgd; go_at_call 21; refine (unite_is Hp5.out.rd hzP Hz5.out.rd hzZ HE.out.2.1).mono ?_; rintro e w6 ⟨Aq, cq, Dq, dq, rfl, hr6, hb6⟩; have hx6 := below_box hb6 (.cells #[.slice Aq SC.length cq, .slice Dq Q.length dq] 25); have HB6 := Aside0.mk (below_then HB5.out HB5.out.size hx6); have Hx6 := Aside0.mk (Hx5.out.step hx6); have Hy6 := Aside0.mk (Hy5.out.step hx6); have Hz6 := Aside0.mk (Hz5.out.step hx6); have Hq6 := Aside0.mk (RelBx.new hr6); have qx0_6 := blk2_c0 Hx6.out.blk; have qx1_6 := blk2_c1 Hx6.out.blk; have qy0_6 := blk2_c0 Hy6.out.blk; have qy1_6 := blk2_c1 Hy6.out.blk; have qz0_6 := blk2_c0 Hz6.out.blk; have qz1_6 := blk2_c1 Hz6.out.blk; have qq0_6 := blk2_c0 Hq6.out.blk; have qq1_6 := blk2_c1 Hq6.out.blk; clear hb6 hr6 hx6 Hp5 Hx5 Hy5 Hz5 qx0_5 qx1_5 qy0_5 qy1_5 qz0_5 qz1_5 qp0_5 qp1_5)
    | (have hgd := HB4; clear hgd; go_at_call 21; refine (unite_is Hx4.out.rd hzX Hy4.out.rd hzY HE.out.1).mono ?_; rintro e w5 ⟨Ap, cp, Dp, dp, rfl, hr5, hb5⟩; have hx5 := below_box hb5 (.cells #[.slice Ap SC.length cp, .slice Dp P.length dp] 25); have HB5 := Aside0.mk (below_then HB4.out HB4.out.size hx5); have Hx5 := Aside0.mk (Hx4.out.step hx5); have Hy5 := Aside0.mk (Hy4.out.step hx5); have Hz5 := Aside0.mk (Hz4.out.step hx5); have Hp5 := Aside0.mk (RelBx.new hr5); have qx0_5 := blk2_c0 Hx5.out.blk; have qx1_5 := blk2_c1 Hx5.out.blk; have qy0_5 := blk2_c0 Hy5.out.blk; have qy1_5 := blk2_c1 Hy5.out.blk; have qz0_5 := blk2_c0 Hz5.out.blk; have qz1_5 := blk2_c1 Hz5.out.blk; have qp0_5 := blk2_c0 Hp5.out.blk; have qp1_5 := blk2_c1 Hp5.out.blk; clear hb5 hr5 hx5 Hx4 Hy4 Hz4 qx0_4 qx1_4 qy0_4 qy1_4 qz0_4 qz1_4)
    | (have hgd := HB3; clear hgd; go_at_call 19; refine (small_is A0 c0 sch A3 c3 rc _ (Kd.C_below HIN.out.1 HB3.out) hc0 (Kd.C_below HIN.out.2.2.2 HB3.out) hc3 HF3.out).mono ?_; rintro e w4 ⟨Az, cz, Dz, dz, rfl, hr4, hb4⟩; have hx4 := below_box hb4 (.cells #[.slice Az SC.length cz, .slice Dz Z.length dz] 25); have HB4 := Aside0.mk (below_then HB3.out HB3.out.size hx4); have Hx4 := Aside0.mk (Hx3.out.step hx4); have Hy4 := Aside0.mk (Hy3.out.step hx4); have Hz4 := Aside0.mk (RelBx.new hr4); have qx0_4 := blk2_c0 Hx4.out.blk; have qx1_4 := blk2_c1 Hx4.out.blk; have qy0_4 := blk2_c0 Hy4.out.blk; have qy1_4 := blk2_c1 Hy4.out.blk; have qz0_4 := blk2_c0 Hz4.out.blk; have qz1_4 := blk2_c1 Hz4.out.blk; clear hb4 hr4 hx4 Hx3 Hy3 qx0_3 qx1_3 qy0_3 qy1_3)
    | (have hgd := HB2; clear hgd; go_at_call 19; refine (small_is A0 c0 sch A2 c2 rb _ (Kd.C_below HIN.out.1 HB2.out) hc0 (Kd.C_below HIN.out.2.2.1 HB2.out) hc2 HF2.out).mono ?_; rintro e w3 ⟨Ay, cy, Dy, dy, rfl, hr3, hb3⟩; have hx3 := below_box hb3 (.cells #[.slice Ay SC.length cy, .slice Dy Y.length dy] 25); have HB3 := Aside0.mk (below_then HB2.out HB2.out.size hx3); have Hx3 := Aside0.mk (Hx2.out.step hx3); have Hy3 := Aside0.mk (RelBx.new hr3); have qx0_3 := blk2_c0 Hx3.out.blk; have qx1_3 := blk2_c1 Hx3.out.blk; have qy0_3 := blk2_c0 Hy3.out.blk; have qy1_3 := blk2_c1 Hy3.out.blk; clear hb3 hr3 hx3 Hx2 qx0_2 qx1_2)
    | (have hgd := HB1; clear hgd; go_at_call 19; refine (small_is A0 c0 sch A1 c1 ra _ (Kd.C_below HIN.out.1 HB1.out) hc0 (Kd.C_below HIN.out.2.1 HB1.out) hc1 HF1.out).mono ?_; rintro e w2 ⟨Ax, cx, Dx, dx, rfl, hr2, hb2⟩; have hx2 := below_box hb2 (.cells #[.slice Ax SC.length cx, .slice Dx X.length dx] 25); have HB2 := Aside0.mk (below_then HB1.out HB1.out.size hx2); have Hx2 := Aside0.mk (RelBx.new hr2); have qx0_2 := blk2_c0 Hx2.out.blk; have qx1_2 := blk2_c1 Hx2.out.blk; clear hb2 hr2 hx2)
    | (go_at_call 12; refine (shown_any _).mono ?_; rintro e w1 ⟨rfl, hb1⟩; have HB1 := Aside0.mk hb1; clear hb1))
  go_loopw [21] (fun i W => ∃ k : Nat, k ≤ X.length ∧ i = .int .i64 k ∧ Aside0 (Below w.heap.size w W ∧ RelBx W w2.heap.size Ax cx SC Dx dx X ∧ RelBx W w6.heap.size Aq cq SC Dq dq Q ∧ RelBx W w8.heap.size At ct SC Dt dt Q)) (fun i _ => X.length - (intOf i).toNat)
  case atStart => exact ⟨0, Nat.zero_le _, rfl, ⟨HB8.out, Hx8.out, Hq8.out, Ht8.out⟩⟩
  case round =>
    clear HB8 Hx8 Hq8 Ht8
    obtain ⟨k, hk, rfl, HI⟩ := hrel
    have qx0 := blk2_c0 HI.out.2.1.blk
    have qx1 := blk2_c1 HI.out.2.1.blk
    have qq0 := blk2_c0 HI.out.2.2.1.blk
    have qq1 := blk2_c1 HI.out.2.2.1.blk
    have qt0 := blk2_c0 HI.out.2.2.2.blk
    have qt1 := blk2_c1 HI.out.2.2.2.blk
    by_cases hlt : k < X.length
    · obtain ⟨ad, Bx, cb, rfl, hx, hlx, hcx⟩ := at_row HI.out.2.1.rd.rows (Below.refl _ _) k hlt
      have HM := Aside0.mk (show X.getD k [] ∈ Q from HQ.out.2 _ (by rw [getD_get _ _ hlt]; exact List.getElem_mem hlt))
      have hkl : (k : Int) < (X.length : Int) := by omega
      generalize X.getD k [] = xk at *
      have HC := Aside0.mk hcx
      clear hcx
      go_wp2_with (fail)
      clear qx0 qx1 qq0 qq1 qt0 qt1
      obtain ⟨I, hI⟩ : ∃ I : World → Prop, ∀ W, I W ↔ (Below w.heap.size w W ∧ RelBx W w2.heap.size Ax cx SC (some ad) dx X ∧ RelBx W w6.heap.size Aq cq SC Dq dq Q ∧ RelBx W w8.heap.size At ct SC Dt dt Q ∧ W.cell? (ad.add k) = some (.slice Bx xk.length cb) ∧ Kd.C KI W Bx xk.length xk) := ⟨_, fun _ => Iff.rfl⟩
      have hIst : ∀ {W W1 : World}, I W → Below W.heap.size W W1 → I W1 := fun h hb => by
        obtain ⟨h0, h1, h2, h3, h4, h5⟩ := (hI _).1 h
        exact (hI _).2 ⟨below_then h0 h0.size hb, h1.step hb, h2.step hb, h3.step hb, (hb.cell (World.block_lt_of_cell? _ _ h4)).trans h4, Kd.C_below h5 hb⟩
      have hIal : ∀ {W : World}, I W → (W.cell? ⟨w2.heap.size, 0, none⟩ = some (.slice Ax SC.length cx) ∧ W.cell? ⟨w2.heap.size, 1, none⟩ = some (.slice (some ad) X.length dx) ∧ W.cell? ⟨w6.heap.size, 0, none⟩ = some (.slice Aq SC.length cq) ∧ W.cell? ⟨w6.heap.size, 1, none⟩ = some (.slice Dq Q.length dq) ∧ W.cell? ⟨w8.heap.size, 0, none⟩ = some (.slice At SC.length ct) ∧ W.cell? ⟨w8.heap.size, 1, none⟩ = some (.slice Dt Q.length dt) ∧ W.cell? (ad.add k) = some (.slice Bx xk.length cb) ∧ I W) := fun h => by
        obtain ⟨h0, h1, h2, h3, h4, h5⟩ := (hI _).1 h
        exact ⟨blk2_c0 h1.blk, blk2_c1 h1.blk, blk2_c0 h2.blk, blk2_c1 h2.blk, blk2_c0 h3.blk, blk2_c1 h3.blk, h4, h⟩
      have hIof : ∀ {W : World}, (W.cell? ⟨w2.heap.size, 0, none⟩ = some (.slice Ax SC.length cx) ∧ W.cell? ⟨w2.heap.size, 1, none⟩ = some (.slice (some ad) X.length dx) ∧ W.cell? ⟨w6.heap.size, 0, none⟩ = some (.slice Aq SC.length cq) ∧ W.cell? ⟨w6.heap.size, 1, none⟩ = some (.slice Dq Q.length dq) ∧ W.cell? ⟨w8.heap.size, 0, none⟩ = some (.slice At SC.length ct) ∧ W.cell? ⟨w8.heap.size, 1, none⟩ = some (.slice Dt Q.length dt) ∧ W.cell? (ad.add k) = some (.slice Bx xk.length cb) ∧ I W) → I W := fun h => h.2.2.2.2.2.2.2
      have hstep : ∀ {W W1 : World}, (W.cell? ⟨w2.heap.size, 0, none⟩ = some (.slice Ax SC.length cx) ∧ W.cell? ⟨w2.heap.size, 1, none⟩ = some (.slice (some ad) X.length dx) ∧ W.cell? ⟨w6.heap.size, 0, none⟩ = some (.slice Aq SC.length cq) ∧ W.cell? ⟨w6.heap.size, 1, none⟩ = some (.slice Dq Q.length dq) ∧ W.cell? ⟨w8.heap.size, 0, none⟩ = some (.slice At SC.length ct) ∧ W.cell? ⟨w8.heap.size, 1, none⟩ = some (.slice Dt Q.length dt) ∧ W.cell? (ad.add k) = some (.slice Bx xk.length cb) ∧ I W) → Below W.heap.size W W1 → (W1.cell? ⟨w2.heap.size, 0, none⟩ = some (.slice Ax SC.length cx) ∧ W1.cell? ⟨w2.heap.size, 1, none⟩ = some (.slice (some ad) X.length dx) ∧ W1.cell? ⟨w6.heap.size, 0, none⟩ = some (.slice Aq SC.length cq) ∧ W1.cell? ⟨w6.heap.size, 1, none⟩ = some (.slice Dq Q.length dq) ∧ W1.cell? ⟨w8.heap.size, 0, none⟩ = some (.slice At SC.length ct) ∧ W1.cell? ⟨w8.heap.size, 1, none⟩ = some (.slice Dt Q.length dt) ∧ W1.cell? (ad.add k) = some (.slice Bx xk.length cb) ∧ I W1) := fun h hb => hIal (hIst (hIof h) hb)
      have gB : ∀ {W : World}, (W.cell? ⟨w2.heap.size, 0, none⟩ = some (.slice Ax SC.length cx) ∧ W.cell? ⟨w2.heap.size, 1, none⟩ = some (.slice (some ad) X.length dx) ∧ W.cell? ⟨w6.heap.size, 0, none⟩ = some (.slice Aq SC.length cq) ∧ W.cell? ⟨w6.heap.size, 1, none⟩ = some (.slice Dq Q.length dq) ∧ W.cell? ⟨w8.heap.size, 0, none⟩ = some (.slice At SC.length ct) ∧ W.cell? ⟨w8.heap.size, 1, none⟩ = some (.slice Dt Q.length dt) ∧ W.cell? (ad.add k) = some (.slice Bx xk.length cb) ∧ I W) → Below w.heap.size w W := fun h => ((hI _).1 (hIof h)).1
      have gx : ∀ {W : World}, (W.cell? ⟨w2.heap.size, 0, none⟩ = some (.slice Ax SC.length cx) ∧ W.cell? ⟨w2.heap.size, 1, none⟩ = some (.slice (some ad) X.length dx) ∧ W.cell? ⟨w6.heap.size, 0, none⟩ = some (.slice Aq SC.length cq) ∧ W.cell? ⟨w6.heap.size, 1, none⟩ = some (.slice Dq Q.length dq) ∧ W.cell? ⟨w8.heap.size, 0, none⟩ = some (.slice At SC.length ct) ∧ W.cell? ⟨w8.heap.size, 1, none⟩ = some (.slice Dt Q.length dt) ∧ W.cell? (ad.add k) = some (.slice Bx xk.length cb) ∧ I W) → RelBx W w2.heap.size Ax cx SC (some ad) dx X := fun h => ((hI _).1 (hIof h)).2.1
      have gq : ∀ {W : World}, (W.cell? ⟨w2.heap.size, 0, none⟩ = some (.slice Ax SC.length cx) ∧ W.cell? ⟨w2.heap.size, 1, none⟩ = some (.slice (some ad) X.length dx) ∧ W.cell? ⟨w6.heap.size, 0, none⟩ = some (.slice Aq SC.length cq) ∧ W.cell? ⟨w6.heap.size, 1, none⟩ = some (.slice Dq Q.length dq) ∧ W.cell? ⟨w8.heap.size, 0, none⟩ = some (.slice At SC.length ct) ∧ W.cell? ⟨w8.heap.size, 1, none⟩ = some (.slice Dt Q.length dt) ∧ W.cell? (ad.add k) = some (.slice Bx xk.length cb) ∧ I W) → RelBx W w6.heap.size Aq cq SC Dq dq Q := fun h => ((hI _).1 (hIof h)).2.2.1
      have gt : ∀ {W : World}, (W.cell? ⟨w2.heap.size, 0, none⟩ = some (.slice Ax SC.length cx) ∧ W.cell? ⟨w2.heap.size, 1, none⟩ = some (.slice (some ad) X.length dx) ∧ W.cell? ⟨w6.heap.size, 0, none⟩ = some (.slice Aq SC.length cq) ∧ W.cell? ⟨w6.heap.size, 1, none⟩ = some (.slice Dq Q.length dq) ∧ W.cell? ⟨w8.heap.size, 0, none⟩ = some (.slice At SC.length ct) ∧ W.cell? ⟨w8.heap.size, 1, none⟩ = some (.slice Dt Q.length dt) ∧ W.cell? (ad.add k) = some (.slice Bx xk.length cb) ∧ I W) → RelBx W w8.heap.size At ct SC Dt dt Q := fun h => ((hI _).1 (hIof h)).2.2.2.1
      have gm0 : ∀ {W : World}, (W.cell? ⟨w2.heap.size, 0, none⟩ = some (.slice Ax SC.length cx) ∧ W.cell? ⟨w2.heap.size, 1, none⟩ = some (.slice (some ad) X.length dx) ∧ W.cell? ⟨w6.heap.size, 0, none⟩ = some (.slice Aq SC.length cq) ∧ W.cell? ⟨w6.heap.size, 1, none⟩ = some (.slice Dq Q.length dq) ∧ W.cell? ⟨w8.heap.size, 0, none⟩ = some (.slice At SC.length ct) ∧ W.cell? ⟨w8.heap.size, 1, none⟩ = some (.slice Dt Q.length dt) ∧ W.cell? (ad.add k) = some (.slice Bx xk.length cb) ∧ I W) → W.cell? (ad.add k) = some (.slice Bx xk.length cb) := fun h => ((hI _).1 (hIof h)).2.2.2.2.1
      have gm1 : ∀ {W : World}, (W.cell? ⟨w2.heap.size, 0, none⟩ = some (.slice Ax SC.length cx) ∧ W.cell? ⟨w2.heap.size, 1, none⟩ = some (.slice (some ad) X.length dx) ∧ W.cell? ⟨w6.heap.size, 0, none⟩ = some (.slice Aq SC.length cq) ∧ W.cell? ⟨w6.heap.size, 1, none⟩ = some (.slice Dq Q.length dq) ∧ W.cell? ⟨w8.heap.size, 0, none⟩ = some (.slice At SC.length ct) ∧ W.cell? ⟨w8.heap.size, 1, none⟩ = some (.slice Dt Q.length dt) ∧ W.cell? (ad.add k) = some (.slice Bx xk.length cb) ∧ I W) → Kd.C KI W Bx xk.length xk := fun h => ((hI _).1 (hIof h)).2.2.2.2.2
      replace hI := Aside0.mk @hI
      replace hIst := Aside0.mk @hIst
      replace hIal := Aside0.mk @hIal
      replace hIof := Aside0.mk @hIof
      replace hstep := Aside0.mk @hstep
      replace gB := Aside0.mk @gB
      replace gx := Aside0.mk @gx
      replace gq := Aside0.mk @gq
      replace gt := Aside0.mk @gt
      replace gm0 := Aside0.mk @gm0
      replace gm1 := Aside0.mk @gm1
      have HS0A := Aside0.mk (hIal.out ((hI.out _).2 ⟨HI.out.1, HI.out.2.1, HI.out.2.2.1, HI.out.2.2.2, hx, HC.out⟩))
      have HSDA := Aside0.mk (hstep.out HS0A.out (below_drew (Below.refl _ _)))
      go_region_held3 (fun W => W.cell? ⟨w2.heap.size, 0, none⟩ = some (.slice Ax SC.length cx) ∧ W.cell? ⟨w2.heap.size, 1, none⟩ = some (.slice (some ad) X.length dx) ∧ W.cell? ⟨w6.heap.size, 0, none⟩ = some (.slice Aq SC.length cq) ∧ W.cell? ⟨w6.heap.size, 1, none⟩ = some (.slice Dq Q.length dq) ∧ W.cell? ⟨w8.heap.size, 0, none⟩ = some (.slice At SC.length ct) ∧ W.cell? ⟨w8.heap.size, 1, none⟩ = some (.slice Dt Q.length dt) ∧ W.cell? (ad.add k) = some (.slice Bx xk.length cb) ∧ I W)
        (first | with_reducible exact HS1A.out | with_reducible exact HSDA.out | with_reducible exact HS0A.out | with_reducible exact hstep.out (by assumption) (below_alloc (Below.refl _ _) _) | with_reducible exact hstep.out (by assumption) (below_drew (Below.refl _ _)))
        (first
          | (go_at_call 24; refine (has_is (gq.out (by assumption)).rd hzQ hUQ (gm1.out (by assumption)) true (decide_eq_true HM.out)).mono ?_; rintro e v1 ⟨rfl, hb1⟩; have hS1 := hstep.out (by assumption) hb1; have HS1A := Aside0.mk hS1; clear hS1 hb1))
      go_wp2
      go_roundw
      case rel => exact ⟨k + 1, by omega, by go_num, ⟨gB.out HS1A.out, gx.out HS1A.out, gq.out HS1A.out, gt.out HS1A.out⟩⟩
      case measure => simp [intOf]; omega
    · have hkl : ¬ (k : Int) < (X.length : Int) := by omega
      go_wp2_with (first
        | (go_at_call 20; refine (same_is HI.out.2.2.1.rd hzQ HI.out.2.2.2.rd true (by simp)).mono ?_; rintro e w9 ⟨rfl, hb9⟩; have HB9 := Aside0.mk (below_then HI.out.1 HI.out.1.size hb9); have HI9 := Aside0.mk (HI.out.2.2.1.step hb9); have qq0_9 := blk2_c0 HI9.out.blk; have qq1_9 := blk2_c1 HI9.out.blk; clear hb9)
        | (go_at_call 17; refine (rightp_is HI9.out.rd hzQ true (decide_eq_true hPQ)).mono ?_; rintro e w10 ⟨rfl, hb10⟩; have HB10 := Aside0.mk (below_then HB9.out HB9.out.size hb10); clear hb10))
      all_goals
        go_ret
        exact ⟨rfl, HB10.out⟩
end Go.Proofs.Ytlinhcgggfdlpaa.G

namespace Go.Proofs.Ytlinhcgggfdlpaa.relUnites
open Go.ChangeShapes Go.WideShapes Go.ChangeAt Go.RowKit Go.Proofs.YtlinhcgggfdlpaaW.PrintWords Go.Proofs.YtlinhcgggfdlpaaW.PrintLast Go.Proofs.YtlinhcgggfdlpaaW.PrintMore
set_option linter.unusedVariables false
theorem own : ownKnob Try.prog.godebug = none := by kernel_rfl
theorem laidOut : laidOutB Try.prog = true := by kernel_rfl
set_option maxRecDepth 100000 in
theorem lifted (os : Os) (started : os.Started) (H : Type) (enc : TypeId × Value → H) :
    ReturnsInHanded {} Try.checked os 6 .any (Rows.relUnitesSpec.pre6 enc Try.prog Try.f6 Rows.relUnitesRow.domain false) (Rows.relUnitesSpec.post enc Try.prog Try.f6 false true false false) := by
  refine returnsInHanded_of_change (C := Try.checked) own started (by kernel_rfl) Try.func6
    (ChangeSpec.witness6 (enc := enc) (C := Try.checked) false ⟨#[], #[.slice none 0 0, .slice none 0 0, .slice none 0 0, .slice none 0 0], []⟩ 8 (by kernel_rfl) (by kernel_rfl) (by kernel_rfl) (by kernel_rfl)) ?_
  intro W base args ds gs before hval0 hW hcnd _
  have hval : ∀ (j : Nat) t v, Try.f6.params[j]? = some t → args[j]? = some v → Value.okWide Try.prog W .any base t v := hval0
  have hW' := hW
  obtain ⟨p, q, hA0, hV, rfl, hfz, hnd⟩ := hW
  have hA : DataW.TrodAll enc Try.prog W 0 (fun _ => true) true Try.f6.params.toList args.toList ds p := hA0
  rw [Try.params6] at hA hval
  obtain ⟨v0, vs0, d0, ds0, p0, q0, hargs, rfl, rfl, h0, r0⟩ := trodAll_cons hA
  obtain ⟨v1, vs1, d1, ds1, p1, q1, rfl, rfl, rfl, h1, r1⟩ := trodAll_cons r0
  obtain ⟨v2, vs2, d2, ds2, p2, q2, rfl, rfl, rfl, h2, r2⟩ := trodAll_cons r1
  obtain ⟨v3, vs3, d3, ds3, p3, q3, rfl, rfl, rfl, h3, r3⟩ := trodAll_cons r2
  obtain ⟨rfl, rfl, rfl⟩ := trodAll_nil r3
  obtain rfl : args = #[v0, v1, v2, v3] := by cases args; simp_all
  obtain ⟨rfl, rfl⟩ := trodVars_none hV
  obtain ⟨a0, len0, cap0, rfl⟩ := okWide_slice Try.underlying22 (hval 0 22 v0 rfl rfl)
  obtain ⟨a1, len1, cap1, rfl⟩ := okWide_slice Try.underlying23 (hval 1 23 v1 rfl rfl)
  obtain ⟨a2, len2, cap2, rfl⟩ := okWide_slice Try.underlying23 (hval 2 23 v2 rfl rfl)
  obtain ⟨a3, len3, cap3, rfl⟩ := okWide_slice Try.underlying23 (hval 3 23 v3 rfl rfl)
  have k0 := h0
  have lt0 : ∀ x ∈ p0, x.block < W.heap.size := by obtain ⟨m, hm⟩ := k0; exact DataW.trod_lt m _ _ _ hm
  have k1 := h1
  have lt1 : ∀ x ∈ p1, x.block < W.heap.size := by obtain ⟨m, hm⟩ := k1; exact DataW.trod_lt m _ _ _ hm
  have k2 := h2
  have lt2 : ∀ x ∈ p2, x.block < W.heap.size := by obtain ⟨m, hm⟩ := k2; exact DataW.trod_lt m _ _ _ hm
  have k3 := h3
  have lt3 : ∀ x ∈ p3, x.block < W.heap.size := by obtain ⟨m, hm⟩ := k3; exact DataW.trod_lt m _ _ _ hm
  obtain ⟨z0, e0, l0, c0⟩ : ∃ xs : List Int, xs.length = len0 ∧ len0 ≤ cap0 ∧ Kd.C G.KI W a0 xs.length xs := by obtain ⟨m, hm⟩ := h0; exact G.in_ints hm
  obtain ⟨z1, e1, l1, c1⟩ : ∃ L : List (List Int), L.length = len1 ∧ len1 ≤ cap1 ∧ Kd.C G.KL W a1 L.length L := by obtain ⟨m, hm⟩ := h1; exact G.in_rows hm
  obtain ⟨z2, e2, l2, c2⟩ : ∃ L : List (List Int), L.length = len2 ∧ len2 ≤ cap2 ∧ Kd.C G.KL W a2 L.length L := by obtain ⟨m, hm⟩ := h2; exact G.in_rows hm
  obtain ⟨z3, e3, l3, c3⟩ : ∃ L : List (List Int), L.length = len3 ∧ len3 ≤ cap3 ∧ Kd.C G.KL W a3 L.length L := by obtain ⟨m, hm⟩ := h3; exact G.in_rows hm
  clear hA0 hval0
  subst e0 e1 e2 e3
  refine (G.relunites_walk a0 cap0 z0 a1 cap1 z1 a2 cap2 z2 a3 cap3 z3 W c0 l0 c1 l1 c2 l2 c3 l3).mono fun e W' ⟨he, bel⟩ => ?_
  subst he
  exact ⟨_, rfl, _, _, _, [], _, [], hW', trodAll_mk1 (shut_bool Try.underlying4 _), (trodAll_cons_mk (Below.trod laidOut (by kernel_rfl) (of_decide_eq_true (by kernel_rfl)) k0 bel lt0) (trodAll_cons_mk (Below.trod laidOut (by kernel_rfl) (of_decide_eq_true (by kernel_rfl)) k1 bel lt1) (trodAll_cons_mk (Below.trod laidOut (by kernel_rfl) (of_decide_eq_true (by kernel_rfl)) k2 bel lt2) (trodAll_cons_mk (Below.trod laidOut (by kernel_rfl) (of_decide_eq_true (by kernel_rfl)) k3 bel lt3) trodAll_mk0)))), rfl, bel.frame _, fun h => by cases h⟩
theorem over : Rows.relUnitesRow.holds Try.pinned (OpenSpec.ofChange Rows.relUnitesSpec) :=
  OpenClaim.holds_of_wide 6 Try.f6 rfl rfl rfl rfl rfl rfl rfl ⟨rfl, rfl, rfl, rfl, rfl⟩ rfl rfl rfl rfl rfl (by kernel_rfl) Try.func6 (by kernel_rfl)
    (of_decide_eq_true (by kernel_rfl)) (by unfold Func.isWrapper; first | (rw [if_pos (by decide +kernel)]; kernel_rfl) | (rw [if_neg (by decide +kernel)]; exact ⟨rfl, rfl⟩))
    (fun os started H enc _ => lifted os started H enc)
theorem proved : Rows.RelUnitesSaid := over
#print axioms proved
end Go.Proofs.Ytlinhcgggfdlpaa.relUnites
