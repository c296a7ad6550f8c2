/- Proved: for every input the law arboristlaw16.PassTells returns true and its arguments read as they did; what the program's tables hold at the start is tied to the program's text. No condition. -/
import Derived.Test.YtpimooejnpdlpaaGreatDoorRows
import Derived.Test.YtpimooejnpdlpaaGreatDoorCards
import Derived.Test.YtpimooejnpdlpaaGreatDoorTie
import Derived.Test.YtpimooejnpdlpaaGreatDoorMN
import Derived.Test.YtpimooejnpdlpaaGreatDoorMS
import Derived.Deep.Matrix
import Derived.ProofKit
import Derived.OpenShut
import Derived.WalkKit
import Derived.ShutString
import Derived.ChangeOld
import Derived.Below
import Derived.SevenTiedAt
import Derived.Stop.Joined
import Derived.Deep.DeepCutAuto
set_option linter.unusedVariables false
set_option linter.unusedSimpArgs false
namespace Go.Proofs.YtpimooejnpdlpaaGreatDoor.G
open Go.RowKit Go.Proofs.YtpimooejnpdlpaaGreatDoorW.PrintWords Go.Proofs.YtpimooejnpdlpaaGreatDoorW.PrintLast Go.Proofs.YtpimooejnpdlpaaGreatDoorW.PrintMore Go.Proofs.YtpimooejnpdlpaaGreatDoor.PRefs
attribute [local go_sem] min2_mn min_two

set_option maxHeartbeats 4000000 in
set_option maxRecDepth 100000 in
theorem passtells_walk (A0 : Option Addr) (c0 : Nat) (l : List S41) (w : World) (hr0 : Kd.C k41 w A0 l.length l) (hc0 : l.length ≤ c0) (htab : Tab w) :
    Calls Tryz.prog 3 #[.slice A0 l.length c0] w fun e w' => e = .returned (.bool true) ∧ Below w.heap.size w w' := by
  have HT := Aside0.mk htab
  clear htab
  have HIN := Aside0.mk hr0
  have HB0 := Aside0.mk (Below.refl w.heap.size w)
  have hsm := smL_sh l
  have htr := tree_shape l
  have hln := sh_lens l
  have hdesc := desc_shape l
  obtain ⟨B, hB⟩ : ∃ B, shBags l = B := ⟨_, rfl⟩
  obtain ⟨P, hP⟩ : ∃ P, shPars l = P := ⟨_, rfl⟩
  obtain ⟨R, hR⟩ : ∃ R, shRels l = R := ⟨_, rfl⟩
  have HBP := Aside0.mk (And.intro hB (And.intro hP hR))
  rw [hB, hP, hR] at hln
  rw [hP] at htr hdesc
  rw [hR] at hsm
  have hRB : R.length = B.length := hln.2.symm
  have hRP : R.length = P.length := hln.1.symm
  have hTT : TreeOf R.length (parOf P) id := by rw [hRP]; exact htr.tree
  have hBE : Behind R.length (parOf P) (afterN P) := by rw [hRP]; exact (after_is htr).2
  have hR6 := hsm.1
  have HTR := Aside0.mk htr
  have HN := Aside0.mk (And.intro hRB hRP)
  have HF := Aside0.mk hsm.fit
  have HS := Aside0.mk hsm
  obtain ⟨u1, u2, u3⟩ := redL_is hTT (afterN P)
  have hUsm := hsm.red hTT (afterN P)
  have hagain := red_again hTT hBE
  have hset := red_is_settled hTT hBE hsm.fit.rt.right
  have hsubU : ∀ k, ∀ t ∈ fam (redL (parOf P) (afterN P) R) k, t ∈ fam R k := fun k t ht => by rw [u3] at ht; exact (redF_sub _ _ _ _ k).subset ht
  obtain ⟨U, hU⟩ : ∃ U, redL (parOf P) (afterN P) R = U := ⟨_, rfl⟩
  rw [hU] at u1 u2 hUsm hagain hset hsubU
  have HU := Aside0.mk hU
  have HUU := Aside0.mk hagain
  have HSU := Aside0.mk hUsm
  have HFU := Aside0.mk hUsm.fit
  have HNU := Aside0.mk (And.intro (u1.trans hRB) (u1.trans hRP))
  have HSET := Aside0.mk (show settledB P U = true from decide_eq_true ((settledP_dec P U).2 hset))
  have HSUB := Aside0.mk hsubU
  have hU6 := hUsm.1
  have hUR : ((U.length : Int) != (R.length : Int)) = false := by simp [u1]
  have HUL := Aside0.mk u1
  have hBR : Behind R.length (parOf P) (afterR P) := by rw [hRP]; exact afterR_behind htr.tree (fun j hj => hdesc j j rfl hj)
  have hrt := hsm.fit.rt.right
  have hUPs := hsm.up hTT (afterN P)
  have hDNs := hsm.down hTT (afterN P).reverse
  have hUPl := (upL_is' hTT (afterN P)).1
  have hDNl := (downL_is' hTT (afterN P).reverse).1
  have hdu : upL (parOf P) (afterR P) R = upL (parOf P) (afterN P) R := upL_one hTT hBR hBE hrt
  have hdd : downL (parOf P) (afterR P).reverse R = downL (parOf P) (afterN P).reverse R := downL_one hTT hBR hBE hrt
  have hdr : downL (parOf P) (afterR P).reverse (upL (parOf P) (afterN P) R) = U := by
    rw [← hU, redL]
    exact downL_one (by rw [hUPl]; exact hTT) (by rw [hUPl]; exact hBR) (by rw [hUPl]; exact hBE) hUPs.fit.rt.right
  obtain ⟨UP, hUP⟩ : ∃ X, upL (parOf P) (afterN P) R = X := ⟨_, rfl⟩
  obtain ⟨DN, hDN⟩ : ∃ X, downL (parOf P) (afterN P).reverse R = X := ⟨_, rfl⟩
  rw [hUP] at hUPs hUPl hdu hdr
  rw [hDN] at hDNs hDNl hdd
  have HUP := Aside0.mk hUP
  have HDN := Aside0.mk hDN
  have HDD := Aside0.mk (And.intro hdu (And.intro hdd hdr))
  have HSUP := Aside0.mk hUPs
  have HSDN := Aside0.mk hDNs
  have hup6 := hUPs.1
  have hdn6 := hDNs.1
  have HLN := Aside0.mk (And.intro hUPl (And.intro hDNl (And.intro u1 hRP)))
  have HDE := Aside0.mk hdesc
  obtain ⟨b, hbs⟩ : ∃ b, settledB P R = b := ⟨_, rfl⟩
  have HBS := Aside0.mk hbs
  have hbb : (b != b) = false := by cases b <;> rfl
  clear hr0 htr hln hdesc hB hP hR hRB hRP hTT hBE hBR hrt hsm u1 u2 u3 hUsm hagain hset hsubU hU hUPs hDNs hUPl hDNl hdu hdd hdr hUP hDN hbs hUR
  go_enter Tryz.func3, Tryz.ntmps3
  go_upto_region 7 with (first
    | (have hgd := HB5; clear hgd; go_at_call 8; refine (reduce_any (dep := id) (root := 0) Ab B.length cb Ap cp P Ao co R _ Hst5.out.sh.rd.1 Hst5.out.sh.rd.2.1 HTR.out HN.out.1 HN.out.2 HF.out (HT.out.step HB5.out)).mono ?_; rintro e w6 ⟨v6, rfl, hv6, hb6⟩; rw [HU.out] at hv6; obtain ⟨gc, rfl, hC6⟩ := hv6.val (by unfold maxLen; omega); have HB6 := Aside0.mk (below_then HB5.out HB5.out.size hb6); have Hst6 := Aside0.mk (Hst5.out.step hb6); have Hcw6 := Aside0.mk (Kd.C_below Hcw5.out hb6); have Hca6 := Aside0.mk (Kd.C_below Hca5.out hb6); have Hcb6 := Aside0.mk (Kd.C_below Hcb5.out hb6); have Hcc6 := Aside0.mk hC6; clear qt0_5 qt1_5; have qt0_6 := blk2_c0 Hst6.out.box; have qt1_6 := blk2_c1 Hst6.out.box; clear hb6 hv6 hC6)
    | (have hgd := HB4; clear hgd; go_at_call 7; refine (passdown_any (dep := id) (root := 0) Ab B.length cb Ap cp P Ao co R _ Hst4.out.sh.rd.1 Hst4.out.sh.rd.2.1 HTR.out HN.out.1 HN.out.2 HF.out (HT.out.step HB4.out)).mono ?_; rintro e w5 ⟨v5, rfl, hv5, hb5⟩; rw [HDN.out] at hv5; obtain ⟨gb, rfl, hC5⟩ := hv5.val (by unfold maxLen; omega); have HB5 := Aside0.mk (below_then HB4.out HB4.out.size hb5); have Hst5 := Aside0.mk (Hst4.out.step hb5); have Hcw5 := Aside0.mk (Kd.C_below Hcw4.out hb5); have Hca5 := Aside0.mk (Kd.C_below Hca4.out hb5); have Hcb5 := Aside0.mk hC5; clear qt0_4 qt1_4; have qt0_5 := blk2_c0 Hst5.out.box; have qt1_5 := blk2_c1 Hst5.out.box; clear hb5 hv5 hC5)
    | (have hgd := HB3; clear hgd; go_at_call 6; refine (passup_any (dep := id) (root := 0) Ab B.length cb Ap cp P Ao co R _ Hst3.out.sh.rd.1 Hst3.out.sh.rd.2.1 HTR.out HN.out.1 HN.out.2 HF.out (HT.out.step HB3.out)).mono ?_; rintro e w4 ⟨v4, rfl, hv4, hb4⟩; rw [HUP.out] at hv4; obtain ⟨ga, rfl, hC4⟩ := hv4.val (by unfold maxLen; omega); have HB4 := Aside0.mk (below_then HB3.out HB3.out.size hb4); have Hst4 := Aside0.mk (Hst3.out.step hb4); have Hcw4 := Aside0.mk (Kd.C_below Hcw3.out hb4); have Hca4 := Aside0.mk hC4; clear qt0_3 qt1_3; have qt0_4 := blk2_c0 Hst4.out.box; have qt1_4 := blk2_c1 Hst4.out.box; clear hb4 hv4 hC4)
    | (have hgd := HB2; clear hgd; go_at_call 5; refine (shape_is (Kd.C_below HIN.out HB2.out) HBP.out.1 HBP.out.2.1 HBP.out.2.2).mono ?_; rintro e w3 ⟨Ab', cb', Ap', cp', Aw, cw, rfl, hsw, hb3⟩; have hx3 := below_box hb3 (.cells #[.slice Ab' B.length cb', .slice Ap' P.length cp'] 27); have HB3 := Aside0.mk (below_then HB2.out HB2.out.size hx3); have Hst3 := Aside0.mk (Hst2.out.step hx3); have Hcw3 := Aside0.mk (Kd.C_below hsw.rd.2.1 (below_alloc (Below.refl _ _) (.cells #[.slice Ab' B.length cb', .slice Ap' P.length cp'] 27))); have hcw := hsw.rd.2.2; clear qt0_2 qt1_2; have qt0_3 := blk2_c0 Hst3.out.box; have qt1_3 := blk2_c1 Hst3.out.box; clear hb3 hx3 hsw)
    | (have hgd := HB1; clear hgd; go_at_call 5; refine (shape_is (Kd.C_below HIN.out HB1.out) HBP.out.1 HBP.out.2.1 HBP.out.2.2).mono ?_; rintro e w2 ⟨Ab, cb, Ap, cp, Ao, co, rfl, hsh, hb2⟩; have hx2 := below_box hb2 (.cells #[.slice Ab B.length cb, .slice Ap P.length cp] 27); have HB2 := Aside0.mk (below_then HB1.out HB1.out.size hx2); have Hst2 := Aside0.mk (PSt.new (below_then HB1.out HB1.out.size hb2) hsh); have qt0_2 := blk2_c0 Hst2.out.box; have qt1_2 := blk2_c1 Hst2.out.box; clear hb2 hx2 hsh)
    | (have hgd := HB0; clear hgd; go_at_call 4; refine (shown16_any _ (HT.out.step HB0.out)).mono ?_; rintro e w1 ⟨rfl, hb1⟩; have HB1 := Aside0.mk (below_then HB0.out HB0.out.size hb1); clear hb1))
  have JST := Aside0.mk (show ∀ {W W' : World}, (W.cell? ⟨w2.heap.size, 0, none⟩ = some (.slice Ab B.length cb) ∧ W.cell? ⟨w2.heap.size, 1, none⟩ = some (.slice Ap P.length cp) ∧ Below w6.heap.size w6 W) → Below W.heap.size W W' → (W'.cell? ⟨w2.heap.size, 0, none⟩ = some (.slice Ab B.length cb) ∧ W'.cell? ⟨w2.heap.size, 1, none⟩ = some (.slice Ap P.length cp) ∧ Below w6.heap.size w6 W') from fun {W W'} h hb => ⟨(hb.cell (World.block_lt_of_cell? W _ h.1)).trans h.1, (hb.cell (World.block_lt_of_cell? W _ h.2.1)).trans h.2.1, below_then h.2.2 h.2.2.size hb⟩)
  have JS0 := Aside0.mk (show (w6.cell? ⟨w2.heap.size, 0, none⟩ = some (.slice Ab B.length cb) ∧ w6.cell? ⟨w2.heap.size, 1, none⟩ = some (.slice Ap P.length cp) ∧ Below w6.heap.size w6 w6) from ⟨qt0_6, qt1_6, Below.refl _ _⟩)
  have JSD := Aside0.mk (JST.out JS0.out (below_drew (Below.refl _ _)))
  have JSD0 := Aside0.mk (JST.out JS0.out (below_drew (Below.refl _ _)))
  go_region_held3 (fun W => (W.cell? ⟨w2.heap.size, 0, none⟩ = some (.slice Ab B.length cb) ∧ W.cell? ⟨w2.heap.size, 1, none⟩ = some (.slice Ap P.length cp) ∧ Below w6.heap.size w6 W))
    (first | with_reducible exact JS3.out | with_reducible exact JS2.out | with_reducible exact JS1.out | with_reducible exact JSD0.out | with_reducible exact JS0.out | with_reducible exact JST.out (by assumption) (below_drew (Below.refl _ _)))
    (first
      | (have hgd := JS2; clear hgd; go_at_call 11; refine (docsettled_is (Kd.C_below (Kd.N_reads' Hst6.out.sh.bags).2.2 (by assumption : _ ∧ _ ∧ Below w6.heap.size w6 _).2.2) (Kd.N_reads' Hst6.out.sh.bags).2.1 (Kd.C_below Hst6.out.sh.rd.1 (by assumption : _ ∧ _ ∧ Below w6.heap.size w6 _).2.2) (Kd.R_reads' Hst6.out.sh.pars).2.1 (Kd.C_below Hst6.out.sh.rd.2.1 (by assumption : _ ∧ _ ∧ Below w6.heap.size w6 _).2.2) Hst6.out.sh.rd.2.2 HTR.out HN.out.1 HN.out.2 HS.out b HBS.out).mono ?_; rintro e v3 ⟨rfl, hb3⟩; have JS3 := Aside0.mk (JST.out (by assumption) hb3); clear hb3)
      | (have hgd := JS1; clear hgd; go_at_call 10; refine (settled_any (dep := id) (root := 0) Ab B.length cb Ap cp P Ao co R _ (Kd.C_below Hst6.out.sh.rd.1 (by assumption : _ ∧ _ ∧ Below w6.heap.size w6 _).2.2) (Kd.C_below Hst6.out.sh.rd.2.1 (by assumption : _ ∧ _ ∧ Below w6.heap.size w6 _).2.2) HTR.out HN.out.1 HN.out.2 HF.out b HBS.out).mono ?_; rintro e v2 ⟨rfl, hb2⟩; have JS2 := Aside0.mk (JST.out (by assumption) hb2); clear hb2)
      | (go_at_call 9; refine (same16_is HS.out (Kd.C_below Hst6.out.sh.rd.2.1 (by assumption : _ ∧ _ ∧ Below w6.heap.size w6 _).2.2) Hst6.out.sh.rd.2.2 (Kd.C_below Hcw6.out (by assumption : _ ∧ _ ∧ Below w6.heap.size w6 _).2.2) hcw).mono ?_; rintro e v1 ⟨rfl, hb1⟩; have JS1 := Aside0.mk (JST.out (by assumption) hb1); clear hb1))
  all_goals
    by_cases hz : R.length = 0
    · have hz0 : ¬ (0 : Int) < (R.length : Int) := by omega
      have hz1 : decide ((0 : Int) < (R.length : Int)) = false := decide_eq_false hz0
      clear hz
      have HQ0 := Aside0.mk JS3.out.2.2
      have qx0_0 := JS3.out.1; have qx0_1 := JS3.out.2.1
      go_wp2_with (first
        | (have hgd := HQ5; clear hgd; go_at_call 9; refine (same16_is HSU.out (Kd.C_below Hcc6.out HQ5.out) (Nat.le_refl _) HF5.out hcf).mono ?_; rintro e x6 ⟨rfl, hx6⟩; have HQ6 := Aside0.mk (below_then HQ5.out HQ5.out.size hx6); have qx6_0 := blk2_c0 (Hst6.out.step HQ6.out).box; have qx6_1 := blk2_c1 (Hst6.out.step HQ6.out).box; clear hx6)
        | (have hgd := HQ4; clear hgd; go_at_call 13; refine (docdown_is (Kd.C_below (Kd.N_reads' Hst6.out.sh.bags).2.2 HQ4.out) (Kd.N_reads' Hst6.out.sh.bags).2.1 (Kd.C_below Hst6.out.sh.rd.1 HQ4.out) (Kd.R_reads' Hst6.out.sh.pars).2.1 HU4.out HTR.out (fun j hj => HDE.out j j rfl hj) (HLN.out.1.trans HN.out.2) HSUP.out HDD.out.2.2 (HLN.out.2.2.1.trans HLN.out.1.symm)).mono ?_; rintro e x5 ⟨Af, cf, rfl, hcf, hf5, hx5⟩; have HQ5 := Aside0.mk (below_then HQ4.out HQ4.out.size hx5); have HF5 := Aside0.mk hf5; clear hf5; have qx5_0 := blk2_c0 (Hst6.out.step HQ5.out).box; have qx5_1 := blk2_c1 (Hst6.out.step HQ5.out).box; clear hx5)
        | (have hgd := HQ3; clear hgd; go_at_call 9; refine (same16_is HSDN.out (Kd.C_below Hcb6.out HQ3.out) (Nat.le_refl _) HD3.out hcd).mono ?_; rintro e x4 ⟨rfl, hx4⟩; have HQ4 := Aside0.mk (below_then HQ3.out HQ3.out.size hx4); have HU4 := Aside0.mk (Kd.C_below HU3.out hx4); have qx4_0 := blk2_c0 (Hst6.out.step HQ4.out).box; have qx4_1 := blk2_c1 (Hst6.out.step HQ4.out).box; clear hx4)
        | (have hgd := HQ2; clear hgd; go_at_call 13; refine (docdown_is (Kd.C_below (Kd.N_reads' Hst6.out.sh.bags).2.2 HQ2.out) (Kd.N_reads' Hst6.out.sh.bags).2.1 (Kd.C_below Hst6.out.sh.rd.1 HQ2.out) (Kd.R_reads' Hst6.out.sh.pars).2.1 (Kd.C_below Hst6.out.sh.rd.2.1 HQ2.out) HTR.out (fun j hj => HDE.out j j rfl hj) HN.out.2 HS.out HDD.out.2.1 HLN.out.2.1).mono ?_; rintro e x3 ⟨Ad, cd, rfl, hcd, hd3, hx3⟩; have HQ3 := Aside0.mk (below_then HQ2.out HQ2.out.size hx3); have HD3 := Aside0.mk hd3; have HU3 := Aside0.mk (Kd.C_below HU2.out hx3); clear hd3; have qx3_0 := blk2_c0 (Hst6.out.step HQ3.out).box; have qx3_1 := blk2_c1 (Hst6.out.step HQ3.out).box; clear hx3)
        | (have hgd := HQ1; clear hgd; go_at_call 9; refine (same16_is HSUP.out (Kd.C_below Hca6.out HQ1.out) (Nat.le_refl _) HU1.out hcu).mono ?_; rintro e x2 ⟨rfl, hx2⟩; have HQ2 := Aside0.mk (below_then HQ1.out HQ1.out.size hx2); have HU2 := Aside0.mk (Kd.C_below HU1.out hx2); have qx2_0 := blk2_c0 (Hst6.out.step HQ2.out).box; have qx2_1 := blk2_c1 (Hst6.out.step HQ2.out).box; clear hx2)
        | (have hgd := HQ0; clear hgd; go_at_call 12; refine (docup_is (Kd.C_below (Kd.N_reads' Hst6.out.sh.bags).2.2 HQ0.out) (Kd.N_reads' Hst6.out.sh.bags).2.1 (Kd.C_below Hst6.out.sh.rd.1 HQ0.out) (Kd.R_reads' Hst6.out.sh.pars).2.1 (Kd.C_below Hst6.out.sh.rd.2.1 HQ0.out) HTR.out (fun j hj => HDE.out j j rfl hj) HN.out.2 HS.out HDD.out.1 HLN.out.1).mono ?_; rintro e x1 ⟨Au, cu, rfl, hcu, hu1, hx1⟩; have HQ1 := Aside0.mk (below_then HQ0.out HQ0.out.size hx1); have HU1 := Aside0.mk hu1; clear hu1; have qx1_0 := blk2_c0 (Hst6.out.step HQ1.out).box; have qx1_1 := blk2_c1 (Hst6.out.step HQ1.out).box; clear hx1))
      go_ret
      exact ⟨rfl, HB6.out.trans (HQ6.out.mono HB6.out.size)⟩
    · have hz0 : (0 : Int) < (R.length : Int) := by omega
      have hz1 : decide ((0 : Int) < (R.length : Int)) = true := decide_eq_true hz0
      have hco : R.length ≤ co := Hst6.out.sh.rd.2.2
      have h1R : 1 ≤ R.length := by omega
      have h1i : (1 : Int) ≤ (R.length : Int) := by omega
      have hcoi : (R.length : Int) ≤ (co : Int) := by omega
      obtain ⟨g, cg, eA, _, _, _⟩ := Kd.N_form Hst6.out.sh.rels (by omega)
      obtain ⟨eA1, _, _⟩ := Value.slice.inj eA
      subst eA1
      clear eA hz
      by_cases hc1 : co = 1
      · have hc2 : (co = 1) = True := by simp [hc1]
        have hc3 : ((co : Int) = 1) = True := by simp; omega
        go_wp2_with fail
        have JSD3 := Aside0.mk (JST.out JS3.out (below_drew (Below.refl _ _)))
        go_region_held3 (fun W => (W.cell? ⟨w2.heap.size, 0, none⟩ = some (.slice Ab B.length cb) ∧ W.cell? ⟨w2.heap.size, 1, none⟩ = some (.slice Ap P.length cp) ∧ Below w6.heap.size w6 W))
          (first | with_reducible exact JS4.out | with_reducible exact JSD3.out | with_reducible exact JS3.out | with_reducible exact JST.out (by assumption) (below_drew (Below.refl _ _)))
          (first
            | (go_at_call 6; refine (passup_err Ab B.length cb Ap P.length cp _ _ _ _ (by have h := HN.out.1; omega)).mono ?_; rintro e v4 ⟨rfl, hb4⟩; have JS4 := Aside0.mk (JST.out (by assumption) hb4); clear hb4))
        all_goals
          go_wp2_with fail
          have JSD4 := Aside0.mk (JST.out JS4.out (below_drew (Below.refl _ _)))
          go_region_held3 (fun W => (W.cell? ⟨w2.heap.size, 0, none⟩ = some (.slice Ab B.length cb) ∧ W.cell? ⟨w2.heap.size, 1, none⟩ = some (.slice Ap P.length cp) ∧ Below w6.heap.size w6 W))
            (first | with_reducible exact JS5.out | with_reducible exact JSD4.out | with_reducible exact JS4.out | with_reducible exact JST.out (by assumption) (below_drew (Below.refl _ _)))
            (first
              | (go_at_call 7; refine (passdown_err Ab B.length cb Ap P.length cp _ _ _ _ (by have h := HN.out.1; omega)).mono ?_; rintro e v5 ⟨rfl, hb5⟩; have JS5 := Aside0.mk (JST.out (by assumption) hb5); clear hb5))
          all_goals
            go_wp2_with fail
            have JSD5 := Aside0.mk (JST.out JS5.out (below_drew (Below.refl _ _)))
            go_region_held3 (fun W => (W.cell? ⟨w2.heap.size, 0, none⟩ = some (.slice Ab B.length cb) ∧ W.cell? ⟨w2.heap.size, 1, none⟩ = some (.slice Ap P.length cp) ∧ Below w6.heap.size w6 W))
              (first | with_reducible exact JS6.out | with_reducible exact JSD5.out | with_reducible exact JS5.out | with_reducible exact JST.out (by assumption) (below_drew (Below.refl _ _)))
              (first
                | (go_at_call 8; refine (reduce_err Ab B.length cb Ap P.length cp _ _ _ _ (by have h := HN.out.1; omega)).mono ?_; rintro e v6 ⟨rfl, hb6⟩; have JS6 := Aside0.mk (JST.out (by assumption) hb6); clear hb6))
            all_goals
              go_wp2_with fail
              have JSD6 := Aside0.mk (JST.out JS6.out (below_drew (Below.refl _ _)))
              go_region_held3 (fun W => (W.cell? ⟨w2.heap.size, 0, none⟩ = some (.slice Ab B.length cb) ∧ W.cell? ⟨w2.heap.size, 1, none⟩ = some (.slice Ap P.length cp) ∧ Below w6.heap.size w6 W))
                (first | with_reducible exact JS7.out | with_reducible exact JSD6.out | with_reducible exact JS6.out | with_reducible exact JST.out (by assumption) (below_drew (Below.refl _ _)))
                (first
                  | (go_at_call 10; refine (settled_err Ab B.length cb Ap P.length cp _ _ _ _ (by have h := HN.out.1; omega)).mono ?_; rintro e v7 ⟨rfl, hb7⟩; have JS7 := Aside0.mk (JST.out (by assumption) hb7); clear hb7))
              all_goals
                have HQ0 := Aside0.mk JS7.out.2.2
                have qx0_0 := JS7.out.1; have qx0_1 := JS7.out.2.1
                go_wp2_with (first
                  | (have hgd := HQ5; clear hgd; go_at_call 9; refine (same16_is HSU.out (Kd.C_below Hcc6.out HQ5.out) (Nat.le_refl _) HF5.out hcf).mono ?_; rintro e x6 ⟨rfl, hx6⟩; have HQ6 := Aside0.mk (below_then HQ5.out HQ5.out.size hx6); have qx6_0 := blk2_c0 (Hst6.out.step HQ6.out).box; have qx6_1 := blk2_c1 (Hst6.out.step HQ6.out).box; clear hx6)
                  | (have hgd := HQ4; clear hgd; go_at_call 13; refine (docdown_is (Kd.C_below (Kd.N_reads' Hst6.out.sh.bags).2.2 HQ4.out) (Kd.N_reads' Hst6.out.sh.bags).2.1 (Kd.C_below Hst6.out.sh.rd.1 HQ4.out) (Kd.R_reads' Hst6.out.sh.pars).2.1 HU4.out HTR.out (fun j hj => HDE.out j j rfl hj) (HLN.out.1.trans HN.out.2) HSUP.out HDD.out.2.2 (HLN.out.2.2.1.trans HLN.out.1.symm)).mono ?_; rintro e x5 ⟨Af, cf, rfl, hcf, hf5, hx5⟩; have HQ5 := Aside0.mk (below_then HQ4.out HQ4.out.size hx5); have HF5 := Aside0.mk hf5; clear hf5; have qx5_0 := blk2_c0 (Hst6.out.step HQ5.out).box; have qx5_1 := blk2_c1 (Hst6.out.step HQ5.out).box; clear hx5)
                  | (have hgd := HQ3; clear hgd; go_at_call 9; refine (same16_is HSDN.out (Kd.C_below Hcb6.out HQ3.out) (Nat.le_refl _) HD3.out hcd).mono ?_; rintro e x4 ⟨rfl, hx4⟩; have HQ4 := Aside0.mk (below_then HQ3.out HQ3.out.size hx4); have HU4 := Aside0.mk (Kd.C_below HU3.out hx4); have qx4_0 := blk2_c0 (Hst6.out.step HQ4.out).box; have qx4_1 := blk2_c1 (Hst6.out.step HQ4.out).box; clear hx4)
                  | (have hgd := HQ2; clear hgd; go_at_call 13; refine (docdown_is (Kd.C_below (Kd.N_reads' Hst6.out.sh.bags).2.2 HQ2.out) (Kd.N_reads' Hst6.out.sh.bags).2.1 (Kd.C_below Hst6.out.sh.rd.1 HQ2.out) (Kd.R_reads' Hst6.out.sh.pars).2.1 (Kd.C_below Hst6.out.sh.rd.2.1 HQ2.out) HTR.out (fun j hj => HDE.out j j rfl hj) HN.out.2 HS.out HDD.out.2.1 HLN.out.2.1).mono ?_; rintro e x3 ⟨Ad, cd, rfl, hcd, hd3, hx3⟩; have HQ3 := Aside0.mk (below_then HQ2.out HQ2.out.size hx3); have HD3 := Aside0.mk hd3; have HU3 := Aside0.mk (Kd.C_below HU2.out hx3); clear hd3; have qx3_0 := blk2_c0 (Hst6.out.step HQ3.out).box; have qx3_1 := blk2_c1 (Hst6.out.step HQ3.out).box; clear hx3)
                  | (have hgd := HQ1; clear hgd; go_at_call 9; refine (same16_is HSUP.out (Kd.C_below Hca6.out HQ1.out) (Nat.le_refl _) HU1.out hcu).mono ?_; rintro e x2 ⟨rfl, hx2⟩; have HQ2 := Aside0.mk (below_then HQ1.out HQ1.out.size hx2); have HU2 := Aside0.mk (Kd.C_below HU1.out hx2); have qx2_0 := blk2_c0 (Hst6.out.step HQ2.out).box; have qx2_1 := blk2_c1 (Hst6.out.step HQ2.out).box; clear hx2)
                  | (have hgd := HQ0; clear hgd; go_at_call 12; refine (docup_is (Kd.C_below (Kd.N_reads' Hst6.out.sh.bags).2.2 HQ0.out) (Kd.N_reads' Hst6.out.sh.bags).2.1 (Kd.C_below Hst6.out.sh.rd.1 HQ0.out) (Kd.R_reads' Hst6.out.sh.pars).2.1 (Kd.C_below Hst6.out.sh.rd.2.1 HQ0.out) HTR.out (fun j hj => HDE.out j j rfl hj) HN.out.2 HS.out HDD.out.1 HLN.out.1).mono ?_; rintro e x1 ⟨Au, cu, rfl, hcu, hu1, hx1⟩; have HQ1 := Aside0.mk (below_then HQ0.out HQ0.out.size hx1); have HU1 := Aside0.mk hu1; clear hu1; have qx1_0 := blk2_c0 (Hst6.out.step HQ1.out).box; have qx1_1 := blk2_c1 (Hst6.out.step HQ1.out).box; clear hx1))
                go_ret
                exact ⟨rfl, HB6.out.trans (HQ6.out.mono HB6.out.size)⟩
      · have hc2 : (co = 1) = False := by simp [hc1]
        have hc3 : ((co : Int) = 1) = False := by simp; omega
        go_wp2_with fail
        have JSD3 := Aside0.mk (JST.out JS3.out (below_drew (Below.refl _ _)))
        go_region_held3 (fun W => (W.cell? ⟨w2.heap.size, 0, none⟩ = some (.slice Ab B.length cb) ∧ W.cell? ⟨w2.heap.size, 1, none⟩ = some (.slice Ap P.length cp) ∧ Below w6.heap.size w6 W))
          (first | with_reducible exact JS4.out | with_reducible exact JSD3.out | with_reducible exact JS3.out | with_reducible exact JST.out (by assumption) (below_drew (Below.refl _ _)))
          (first
            | (go_at_call 6; refine (passup_err Ab B.length cb Ap P.length cp _ _ _ _ (by have h := HN.out.1; omega)).mono ?_; rintro e v4 ⟨rfl, hb4⟩; have JS4 := Aside0.mk (JST.out (by assumption) hb4); clear hb4))
        all_goals
          go_wp2_with fail
          have JSD4 := Aside0.mk (JST.out JS4.out (below_drew (Below.refl _ _)))
          go_region_held3 (fun W => (W.cell? ⟨w2.heap.size, 0, none⟩ = some (.slice Ab B.length cb) ∧ W.cell? ⟨w2.heap.size, 1, none⟩ = some (.slice Ap P.length cp) ∧ Below w6.heap.size w6 W))
            (first | with_reducible exact JS5.out | with_reducible exact JSD4.out | with_reducible exact JS4.out | with_reducible exact JST.out (by assumption) (below_drew (Below.refl _ _)))
            (first
              | (go_at_call 7; refine (passdown_err Ab B.length cb Ap P.length cp _ _ _ _ (by have h := HN.out.1; omega)).mono ?_; rintro e v5 ⟨rfl, hb5⟩; have JS5 := Aside0.mk (JST.out (by assumption) hb5); clear hb5))
          all_goals
            go_wp2_with fail
            have JSD5 := Aside0.mk (JST.out JS5.out (below_drew (Below.refl _ _)))
            go_region_held3 (fun W => (W.cell? ⟨w2.heap.size, 0, none⟩ = some (.slice Ab B.length cb) ∧ W.cell? ⟨w2.heap.size, 1, none⟩ = some (.slice Ap P.length cp) ∧ Below w6.heap.size w6 W))
              (first | with_reducible exact JS6.out | with_reducible exact JSD5.out | with_reducible exact JS5.out | with_reducible exact JST.out (by assumption) (below_drew (Below.refl _ _)))
              (first
                | (go_at_call 8; refine (reduce_err Ab B.length cb Ap P.length cp _ _ _ _ (by have h := HN.out.1; omega)).mono ?_; rintro e v6 ⟨rfl, hb6⟩; have JS6 := Aside0.mk (JST.out (by assumption) hb6); clear hb6))
            all_goals
              go_wp2_with fail
              have JSD6 := Aside0.mk (JST.out JS6.out (below_drew (Below.refl _ _)))
              go_region_held3 (fun W => (W.cell? ⟨w2.heap.size, 0, none⟩ = some (.slice Ab B.length cb) ∧ W.cell? ⟨w2.heap.size, 1, none⟩ = some (.slice Ap P.length cp) ∧ Below w6.heap.size w6 W))
                (first | with_reducible exact JS7.out | with_reducible exact JSD6.out | with_reducible exact JS6.out | with_reducible exact JST.out (by assumption) (below_drew (Below.refl _ _)))
                (first
                  | (go_at_call 10; refine (settled_err Ab B.length cb Ap P.length cp _ _ _ _ (by have h := HN.out.1; omega)).mono ?_; rintro e v7 ⟨rfl, hb7⟩; have JS7 := Aside0.mk (JST.out (by assumption) hb7); clear hb7))
              all_goals
                have HQ0 := Aside0.mk JS7.out.2.2
                have qx0_0 := JS7.out.1; have qx0_1 := JS7.out.2.1
                go_wp2_with (first
                  | (have hgd := HQ5; clear hgd; go_at_call 9; refine (same16_is HSU.out (Kd.C_below Hcc6.out HQ5.out) (Nat.le_refl _) HF5.out hcf).mono ?_; rintro e x6 ⟨rfl, hx6⟩; have HQ6 := Aside0.mk (below_then HQ5.out HQ5.out.size hx6); have qx6_0 := blk2_c0 (Hst6.out.step HQ6.out).box; have qx6_1 := blk2_c1 (Hst6.out.step HQ6.out).box; clear hx6)
                  | (have hgd := HQ4; clear hgd; go_at_call 13; refine (docdown_is (Kd.C_below (Kd.N_reads' Hst6.out.sh.bags).2.2 HQ4.out) (Kd.N_reads' Hst6.out.sh.bags).2.1 (Kd.C_below Hst6.out.sh.rd.1 HQ4.out) (Kd.R_reads' Hst6.out.sh.pars).2.1 HU4.out HTR.out (fun j hj => HDE.out j j rfl hj) (HLN.out.1.trans HN.out.2) HSUP.out HDD.out.2.2 (HLN.out.2.2.1.trans HLN.out.1.symm)).mono ?_; rintro e x5 ⟨Af, cf, rfl, hcf, hf5, hx5⟩; have HQ5 := Aside0.mk (below_then HQ4.out HQ4.out.size hx5); have HF5 := Aside0.mk hf5; clear hf5; have qx5_0 := blk2_c0 (Hst6.out.step HQ5.out).box; have qx5_1 := blk2_c1 (Hst6.out.step HQ5.out).box; clear hx5)
                  | (have hgd := HQ3; clear hgd; go_at_call 9; refine (same16_is HSDN.out (Kd.C_below Hcb6.out HQ3.out) (Nat.le_refl _) HD3.out hcd).mono ?_; rintro e x4 ⟨rfl, hx4⟩; have HQ4 := Aside0.mk (below_then HQ3.out HQ3.out.size hx4); have HU4 := Aside0.mk (Kd.C_below HU3.out hx4); have qx4_0 := blk2_c0 (Hst6.out.step HQ4.out).box; have qx4_1 := blk2_c1 (Hst6.out.step HQ4.out).box; clear hx4)
                  | (have hgd := HQ2; clear hgd; go_at_call 13; refine (docdown_is (Kd.C_below (Kd.N_reads' Hst6.out.sh.bags).2.2 HQ2.out) (Kd.N_reads' Hst6.out.sh.bags).2.1 (Kd.C_below Hst6.out.sh.rd.1 HQ2.out) (Kd.R_reads' Hst6.out.sh.pars).2.1 (Kd.C_below Hst6.out.sh.rd.2.1 HQ2.out) HTR.out (fun j hj => HDE.out j j rfl hj) HN.out.2 HS.out HDD.out.2.1 HLN.out.2.1).mono ?_; rintro e x3 ⟨Ad, cd, rfl, hcd, hd3, hx3⟩; have HQ3 := Aside0.mk (below_then HQ2.out HQ2.out.size hx3); have HD3 := Aside0.mk hd3; have HU3 := Aside0.mk (Kd.C_below HU2.out hx3); clear hd3; have qx3_0 := blk2_c0 (Hst6.out.step HQ3.out).box; have qx3_1 := blk2_c1 (Hst6.out.step HQ3.out).box; clear hx3)
                  | (have hgd := HQ1; clear hgd; go_at_call 9; refine (same16_is HSUP.out (Kd.C_below Hca6.out HQ1.out) (Nat.le_refl _) HU1.out hcu).mono ?_; rintro e x2 ⟨rfl, hx2⟩; have HQ2 := Aside0.mk (below_then HQ1.out HQ1.out.size hx2); have HU2 := Aside0.mk (Kd.C_below HU1.out hx2); have qx2_0 := blk2_c0 (Hst6.out.step HQ2.out).box; have qx2_1 := blk2_c1 (Hst6.out.step HQ2.out).box; clear hx2)
                  | (have hgd := HQ0; clear hgd; go_at_call 12; refine (docup_is (Kd.C_below (Kd.N_reads' Hst6.out.sh.bags).2.2 HQ0.out) (Kd.N_reads' Hst6.out.sh.bags).2.1 (Kd.C_below Hst6.out.sh.rd.1 HQ0.out) (Kd.R_reads' Hst6.out.sh.pars).2.1 (Kd.C_below Hst6.out.sh.rd.2.1 HQ0.out) HTR.out (fun j hj => HDE.out j j rfl hj) HN.out.2 HS.out HDD.out.1 HLN.out.1).mono ?_; rintro e x1 ⟨Au, cu, rfl, hcu, hu1, hx1⟩; have HQ1 := Aside0.mk (below_then HQ0.out HQ0.out.size hx1); have HU1 := Aside0.mk hu1; clear hu1; have qx1_0 := blk2_c0 (Hst6.out.step HQ1.out).box; have qx1_1 := blk2_c1 (Hst6.out.step HQ1.out).box; clear hx1))
                go_ret
                exact ⟨rfl, HB6.out.trans (HQ6.out.mono HB6.out.size)⟩
end Go.Proofs.YtpimooejnpdlpaaGreatDoor.G

namespace Go.Proofs.YtpimooejnpdlpaaGreatDoor.passTells
open Go.ChangeShapes Go.WideShapes Go.ChangeAt Go.RowKit Go.Proofs.YtpimooejnpdlpaaGreatDoorW.PrintWords Go.Proofs.YtpimooejnpdlpaaGreatDoorW.PrintLast Go.Proofs.YtpimooejnpdlpaaGreatDoorW.PrintMore Go.Proofs.YtpimooejnpdlpaaGreatDoor.PRefs
set_option linter.unusedVariables false
theorem own : ownKnob Tryz.prog.godebug = none := by kernel_rfl
theorem laidOut : laidOutB Tryz.prog = true := by kernel_rfl
set_option maxRecDepth 100000 in
theorem lifted (os : Os) (started : os.Started) (H : Type) (enc : TypeId × Value → H) :
    ReturnsInHanded {} Tryz.checked os 3 .any (fun w args => (Rows.passTellsSpec.pre enc Tryz.prog Tryz.f3 [] false w args ∧ laidMetH Tryz.prog G.laidList w) ∧ sizedMet enc Tryz.prog Tryz.f3 (OpenSpec.ofChange Rows.passTellsSpec) false w args)
      (Rows.passTellsSpec.post enc Tryz.prog Tryz.f3 false true false false) := by
  refine returnsInHanded_of_change_and (C := Tryz.checked) (X := fun w _ => laidMetH Tryz.prog G.laidList w) (fun _ _ _ hh h => h.of_heap hh) own started (by kernel_rfl) Tryz.func3
    (ChangeSpec.witness_shaped (enc := enc) (C := Tryz.checked) (os := os) (X := fun w _ => laidMetH Tryz.prog G.laidList w) false (World.doorLaid Tryz.prog 400 os) #[.slice none 0 0] 8 rfl (World.shaped_of_RefB (by kernel_rfl) (by kernel_rfl)) (by kernel_rfl) (by kernel_rfl) (by kernel_rfl) (G.door_met os _)) ?_
  intro W base args ds gs before hval0 hW _ _ hL _
  have htab := G.tab_of hL
  have hval : ∀ (j : Nat) t v, Tryz.f3.params[j]? = some t → args[j]? = some v → Value.okWide Tryz.prog W .any base t v := hval0
  have hW' := hW
  obtain ⟨p, q, hA0, hV, rfl, hfz, hnd⟩ := hW
  have hA : DataW.TrodAll enc Tryz.prog W 0 (fun _ => true) true Tryz.f3.params.toList args.toList ds p := hA0
  rw [Tryz.params3] at hA hval
  obtain ⟨v0, vs0, d0, ds0, p0, q0, hargs, rfl, rfl, h0, r0⟩ := trodAll_cons hA
  obtain ⟨rfl, rfl, rfl⟩ := trodAll_nil r0
  obtain rfl : args = #[v0] := by cases args; simp_all
  obtain ⟨rfl, rfl⟩ := trodVars_none hV
  obtain ⟨a0, len0, cap0, rfl⟩ := okWide_slice Tryz.underlying22 (hval 0 22 v0 rfl rfl)
  have k0 := h0
  have lt0 : ∀ x ∈ p0, x.block < W.heap.size := by obtain ⟨m, hm⟩ := k0; exact DataW.trod_lt m _ _ _ hm
  obtain ⟨z0, e0, l0, c0⟩ : ∃ xs : List S41, xs.length = len0 ∧ len0 ≤ cap0 ∧ Kd.C k41 W a0 xs.length xs := by obtain ⟨m, hm⟩ := h0; exact G.in_parts hm
  clear hA0 hval0
  subst e0
  refine (G.passtells_walk a0 cap0 z0 W c0 l0 htab).mono fun e W' ⟨he, bel⟩ => ?_
  subst he
  exact ⟨_, rfl, _, _, _, [], _, [], hW', trodAll_mk1 (shut_bool Tryz.underlying4 _), (trodAll_cons_mk (Below.trod laidOut (by kernel_rfl) (of_decide_eq_true (by kernel_rfl)) k0 bel lt0) trodAll_mk0), rfl, bel.frame _, fun h => by cases h⟩
theorem over : Rows.passTellsRow.holds Tryz.pinned (OpenSpec.ofChange Rows.passTellsSpec) :=
  OpenClaim.holds_of_wide 3 Tryz.f3 rfl rfl rfl rfl rfl rfl rfl ⟨rfl, rfl, rfl, rfl, rfl⟩ rfl rfl rfl rfl rfl (by kernel_rfl) Tryz.func3 (by kernel_rfl)
    (of_decide_eq_true (by kernel_rfl)) (by unfold Func.isWrapper; first | (rw [if_pos (by decide +kernel)]; kernel_rfl) | (rw [if_neg (by decide +kernel)]; exact ⟨rfl, rfl⟩))
    (fun os started H enc _ => lifted os started H enc)
theorem proved : Rows.PassTellsCardSaid :=
  Claim7.holds_tied_plain_at .later [] [.data, .data, .data] true Rows.passTellsCard.stood.harness false
    over (fun _ h => by cases h) (by kernel_rfl) (fun _ h => by cases h) passTells_row_tie rfl ⟨rfl, rfl⟩ (by kernel_rfl) rfl
    (fun f fn hf hfn => by
      obtain rfl : f = 3 := Option.some.inj ((show Tryz.prog.funcNamed "arborist/arboristlaw16.PassTells" = some 3 by kernel_rfl).symm.trans hf) |>.symm
      obtain rfl : fn = Tryz.f3 := (Option.some.inj (Tryz.func3.symm.trans hfn)).symm
      exact ⟨by kernel_rfl, fun j t ht => by
        rw [Tryz.params3] at ht
        have hm : t ∈ [22] := by simpa using Array.mem_of_getElem? ht
        have hall : ([22].all fun u => !Tryz.prog.wantsStandIn u) = true := by kernel_rfl
        exact (show Tryz.prog.wantsStandIn t = false by simpa using List.all_eq_true.1 hall t hm)⟩)
    (by kernel_rfl)
#print axioms proved
end Go.Proofs.YtpimooejnpdlpaaGreatDoor.passTells
