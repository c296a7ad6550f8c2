/- Proved: for every input the law arboristlaw16.PassNone returns true and its arguments read as they did; what the program's tables hold at the start is tied to the program's text. No condition. -/
import Derived.Test.YtgpbhmcmbigbdaaDoorRows
import Derived.Test.YtgpbhmcmbigbdaaDoorCards
import Derived.Test.YtgpbhmcmbigbdaaDoorTie
import Derived.Test.YtgpbhmcmbigbdaaDoorMN
import Derived.Deep.Matrix
import Derived.ProofKit
import Derived.OpenShut
import Derived.WalkKit
import Derived.ShutString
import Derived.ChangeOld
import Derived.Below
import Derived.SevenTiedAt
import Derived.Stop.Joined
import Derived.Deep.DeepCutAuto
set_option linter.unusedVariables false
set_option linter.unusedSimpArgs false
namespace Go.Proofs.YtgpbhmcmbigbdaaDoor.G
open Go.RowKit Go.Proofs.YtgpbhmcmbigbdaaDoorW.PrintWords Go.Proofs.YtgpbhmcmbigbdaaDoorW.PrintLast Go.Proofs.YtgpbhmcmbigbdaaDoorW.PrintMore Go.Proofs.YtgpbhmcmbigbdaaDoor.PRefs
attribute [local go_sem] min2_mn min_two

set_option maxHeartbeats 4000000 in
set_option maxRecDepth 100000 in
theorem passnone_walk (A0 : Option Addr) (c0 : Nat) (l : List S43) (pos : Int) (w : World) (hr0 : Kd.C k43 w A0 l.length l) (hc0 : l.length ≤ c0) (htab : Tab w) :
    Calls Tryd.prog 4 #[.slice A0 l.length c0, .int .i64 pos] w fun e w' => e = .returned (.bool true) ∧ Below w.heap.size w w' := by
  have HT := Aside0.mk htab
  clear htab
  have HIN := Aside0.mk hr0
  have HB0 := Aside0.mk (Below.refl w.heap.size w)
  have hsm := smL_sh l
  have htr := tree_shape l
  have hln := sh_lens l
  have hdesc := desc_shape l
  obtain ⟨B, hB⟩ : ∃ B, shBags l = B := ⟨_, rfl⟩
  obtain ⟨P, hP⟩ : ∃ P, shPars l = P := ⟨_, rfl⟩
  obtain ⟨R, hR⟩ : ∃ R, shRels l = R := ⟨_, rfl⟩
  have HBP := Aside0.mk (And.intro hB (And.intro hP hR))
  rw [hB, hP, hR] at hln
  rw [hP] at htr hdesc
  rw [hR] at hsm
  have hRB : R.length = B.length := hln.2.symm
  have hRP : R.length = P.length := hln.1.symm
  have hTT : TreeOf R.length (parOf P) id := by rw [hRP]; exact htr.tree
  have hBE : Behind R.length (parOf P) (afterN P) := by rw [hRP]; exact (after_is htr).2
  have hR6 := hsm.1
  have HTR := Aside0.mk htr
  have HN := Aside0.mk (And.intro hRB hRP)
  have HF := Aside0.mk hsm.fit
  have HS := Aside0.mk hsm
  have hpm : ∀ {a b : Prop}, a → b → a ∧ b := fun h k => ⟨h, k⟩
  clear hpm
  obtain ⟨v, hv⟩ : ∃ v, (Go.bits .and .i64 pos 65535).tmod (R.length : Int) = v := ⟨_, rfl⟩
  have hv0 : 0 < R.length → 0 ≤ v ∧ v < (R.length : Int) := fun h => by
    rw [← hv]
    have h1 := and16 pos
    exact ⟨Int.tmod_nonneg _ h1.1, Int.tmod_lt_of_pos _ (by omega)⟩
  obtain ⟨u1, u2, u3⟩ := redL_is hTT (afterN P)
  have hUsm := hsm.red hTT (afterN P)
  have hagain := red_again hTT hBE
  have hset := red_is_settled hTT hBE hsm.fit.rt.right
  have hsubU : ∀ k, ∀ t ∈ fam (redL (parOf P) (afterN P) R) k, t ∈ fam R k := fun k t ht => by rw [u3] at ht; exact (redF_sub _ _ _ _ k).subset ht
  obtain ⟨U, hU⟩ : ∃ U, redL (parOf P) (afterN P) R = U := ⟨_, rfl⟩
  rw [hU] at u1 u2 hUsm hagain hset hsubU
  have HU := Aside0.mk hU
  have HUU := Aside0.mk hagain
  have HSU := Aside0.mk hUsm
  have HFU := Aside0.mk hUsm.fit
  have HNU := Aside0.mk (And.intro (u1.trans hRB) (u1.trans hRP))
  have HSET := Aside0.mk (show settledB P U = true from decide_eq_true ((settledP_dec P U).2 hset))
  have HSUB := Aside0.mk hsubU
  have hU6 := hUsm.1
  have hUR : ((U.length : Int) != (R.length : Int)) = false := by simp [u1]
  have HV := Aside0.mk hv
  have HV0 := Aside0.mk hv0
  have HTB := Aside0.mk (And.intro hTT hBE)
  have HDE := Aside0.mk hdesc
  have HUL := Aside0.mk u1
  clear hr0 htr hln hdesc hB hP hR hRB hRP hTT hBE hsm u1 u2 u3 hUsm hagain hset hsubU hU hv hv0
  go_enter Tryd.func4, Tryd.ntmps4
  go_upto_region 3 with (first
    | (have hgd := HB1; clear hgd; go_at_call 7; refine (shape_is (Kd.C_below HIN.out HB1.out) HBP.out.1 HBP.out.2.1 HBP.out.2.2).mono ?_; rintro e w2 ⟨Ab, cb, Ap, cp, Ao, co, rfl, hsh, hb2⟩; have hx2 := below_box hb2 (.cells #[.slice Ab B.length cb, .slice Ap P.length cp] 27); have HB2 := Aside0.mk (below_then HB1.out HB1.out.size hx2); have Hst2 := Aside0.mk (PSt.new (below_then HB1.out HB1.out.size hb2) hsh); have qt0_2 := blk2_c0 Hst2.out.box; have qt1_2 := blk2_c1 Hst2.out.box; clear hb2 hx2 hsh)
    | (have hgd := HB0; clear hgd; go_at_call 6; refine (shown16_any _ (HT.out.step HB0.out)).mono ?_; rintro e w1 ⟨rfl, hb1⟩; have HB1 := Aside0.mk (below_then HB0.out HB0.out.size hb1); clear hb1))
  clear qt0_2 qt1_2
  by_cases hz : R.length = 0
  · have hz1 : ((R.length : Int) == 0) = true := by simp [hz]
    have hz2 : ((U.length : Int) == 0) = true := by have := HUL.out; simp [this, hz]
    have hset0 : settledB P R = true := decide_eq_true (fun i hi => by have := HN.out.2; omega)
    have HSET0 := Aside0.mk hset0
    clear hz hset0
    have qt0_2 := blk2_c0 Hst2.out.box; have qt1_2 := blk2_c1 Hst2.out.box
    go_wp2_with (first
      | (have hgd := HB3; clear hgd; go_at_call 10; refine (settled_any (dep := id) (root := 0) Ab B.length cb Ap cp P Ao co R _ Hst3.out.sh.rd.1 Hst3.out.sh.rd.2.1 HTR.out HN.out.1 HN.out.2 HF.out true HSET0.out).mono ?_; rintro e w4 ⟨rfl, hb4⟩; have HB4 := Aside0.mk (below_then HB3.out HB3.out.size hb4); have Hst4 := Aside0.mk (Hst3.out.step hb4); have Hca4 := Aside0.mk (Kd.C_below Hca3.out hb4); clear qt0_3 qt1_3; have qt0_4 := blk2_c0 Hst4.out.box; have qt1_4 := blk2_c1 Hst4.out.box; clear hb4)
      | (have hgd := HB2; clear hgd; go_at_call 8; refine (reduce_any (dep := id) (root := 0) Ab B.length cb Ap cp P Ao co R _ Hst2.out.sh.rd.1 Hst2.out.sh.rd.2.1 HTR.out HN.out.1 HN.out.2 HF.out (HT.out.step HB2.out)).mono ?_; rintro e w3 ⟨v3, rfl, hv3, hb3⟩; rw [HU.out] at hv3; obtain ⟨ga, rfl, hC3⟩ := hv3.val (by unfold maxLen; omega); have HB3 := Aside0.mk (below_then HB2.out HB2.out.size hb3); have Hst3 := Aside0.mk (Hst2.out.step hb3); have Hca3 := Aside0.mk hC3; clear qt0_2 qt1_2; have qt0_3 := blk2_c0 Hst3.out.box; have qt1_3 := blk2_c1 Hst3.out.box; clear hb3 hv3 hC3))
    go_ret
    exact ⟨rfl, HB4.out⟩
  · have hzp : 0 < R.length := Nat.pos_of_ne_zero hz
    have hz1 : ((R.length : Int) == 0) = false := by simp [hz]
    obtain ⟨q, hq⟩ : ∃ q : Nat, v = (q : Int) := ⟨v.toNat, (Int.toNat_of_nonneg (HV0.out hzp).1).symm⟩
    have hqR : q < R.length := by have := (HV0.out hzp).2; omega
    obtain ⟨g, cg, eA, hg1, hg2, cells, hcells⟩ := Kd.N_form Hst2.out.sh.rels hzp
    obtain ⟨eA1, eA2, eA3⟩ := Value.slice.inj eA
    subst eA1 eA3
    clear eA eA2
    obtain ⟨cc, hcl, hF, hcell, hfr⟩ := Kd.N_elem Hst2.out.sh.rels z37 (q : Int) (by omega) (by omega)
    obtain ⟨A0, c0', A1, c1', rfl, l0, g0, l1, g1⟩ := k37_openF hF
    have qc : (w2.alloc (.cells #[.slice Ab B.length cb, .slice Ap P.length cp] 27)).cell? ⟨g, q * 2 + 1, none⟩ = some (.slice A1 _ c1') := hcell 1 _ rfl
    have qf : (w2.alloc (.cells #[.slice Ab B.length cb, .slice Ap P.length cp] 27)).frozen? ⟨g, q * 2 + 1, none⟩ = false := hfr 1
    have HCN := Aside0.mk (none_put Hst2.out.sh.rels q hqR)
    have HPN := Aside0.mk (Kd.R_far Hst2.out.sh.pars (p := ⟨g, q * 2 + 1, none⟩) (fun k hk e => hk.2.2 (by rw [e]; rfl)) (.slice none 0 0))
    have HBX := Aside0.mk (Below.heap_setCell (w2.alloc (.cells #[.slice Ab B.length cb, .slice Ap P.length cp] 27)) ⟨g, q * 2 + 1, none⟩ (.slice none 0 0) _ (blk_ne Hst2.out.box hcells (by decide)))
    have HBN := Aside0.mk (below_set HB2.out (j := q * 2 + 1) (v := .slice none 0 0) (Nat.le_trans HB1.out.size hg1))
    have hvq := HV.out
    rw [hq] at hvq
    have hRne : (R.length : Int) ≠ 0 := by omega
    have hqn : ((q : Nat) : Int).toNat = q := rfl
    have hq0 : (0 : Int) ≤ (q : Int) := by omega
    have hq1 : (q : Int) < (R.length : Int) := by omega
    clear hcell hfr hF g0 g1 l0 l1 hcells hcl HV0 HV
    obtain ⟨n1, n2, n3⟩ := none_all HTB.out.1 HTB.out.2 q hqR (r := 0) (fun j hj => HDE.out j j rfl (by have := HN.out.2; omega))
    have hsn := HS.out.none q hqR
    have hln := noneAt_len R q
    have hsc := noneAt_sch R q hqR
    have HX1 := HCN.out
    have HX2 : Kd.C KI ((w2.alloc (.cells #[.slice Ab B.length cb, .slice Ap P.length cp] 27)).setCell ⟨g, q * 2 + 1, none⟩ (.slice none 0 0)) Ap P.length P := by
      obtain ⟨A', c', e, _, hC⟩ := Kd.R_reads HPN.out
      injection e with e1 e2 e3
      subst e1
      exact hC
    have HX3 := HBX.out.trans Hst2.out.box
    have HX4 := HBN.out
    have HX5 := HT.out.step HBN.out
    obtain ⟨X, hX⟩ : ∃ X, noneAt R q = X := ⟨_, rfl⟩
    obtain ⟨Y, hY⟩ : ∃ Y, redL (parOf P) (afterN P) X = Y := ⟨_, rfl⟩
    rw [hX] at n1 n2 n3 hsn hln hsc HX1
    rw [hY] at n1 n2 n3
    have HY := Aside0.mk hY
    have hYR : ((Y.length : Int) != (R.length : Int)) = false := by simp [n1]
    have HXL := Aside0.mk hln
    have HYL := Aside0.mk n1
    have HYS := Aside0.mk (n2.trans hsc.symm)
    have HYF := Aside0.mk n3
    have HFX := Aside0.mk hsn.fit
    have hX6 := hsn.1
    have HNX := Aside0.mk (And.intro (hln.trans HN.out.1) (hln.trans HN.out.2))
    clear hX hY n1 n2 n3 hsn hln hsc HCN HPN HBX HBN
    go_upto_region 8 with fail
    clear qc qf hvq hq1 hq0 hqn hRne
    generalize ((w2.alloc (.cells #[.slice Ab B.length cb, .slice Ap P.length cp] 27)).setCell ⟨g, q * 2 + 1, none⟩ (.slice none 0 0)) = ws at HX1 HX2 HX3 HX4 HX5 ⊢
    have qt0 := blk2_c0 HX3
    have qt1 := blk2_c1 HX3
    have HC := Aside0.mk HX1
    have HP := Aside0.mk HX2
    have HB := Aside0.mk HX4
    have HTS := Aside0.mk HX5
    have HRED : Calls Tryd.prog 8 #[.agg #[.slice Ab B.length cb, .slice Ap P.length cp], .slice (some ⟨g, 0, none⟩) R.length co] ws fun e w' => ∃ v, e = .returned (.tuple #[v, .int .i64 0]) ∧ RelsM w' ws.heap.size v Y ∧ Below ws.heap.size ws w' := by
      have h := reduce_any (dep := id) (root := 0) Ab B.length cb Ap cp P (some ⟨g, 0, none⟩) co X _ HP.out HC.out HTR.out HNX.out.1 HNX.out.2 HFX.out HTS.out
      rw [HY.out] at h
      rw [HXL.out] at h
      exact h
    have HRD := Aside0.mk HRED
    clear HX1 HX2 HX3 HX4 HX5 HRED Hst2 HB2
    go_upto_region 11 with (first
      | (go_at_call 8; refine HRD.out.mono ?_; rintro e w9 ⟨v9, rfl, hv9, hb9⟩; obtain ⟨ga, rfl, hC9⟩ := hv9.val (by unfold maxLen; have := HYL.out; omega); have HB9 := Aside0.mk (below_then HB.out HB.out.size hb9); have HC9 := Aside0.mk (Kd.C_below HC.out hb9); have HA9 := Aside0.mk hC9; clear hv9 hC9 hb9 HRD))
    clear qt0 qt1
    go_wp2_with fail
    go_loopw [12] (fun i W => ∃ (j : Nat), j ≤ Y.length ∧ i = .int .i64 j ∧ Aside0 (Below w9.heap.size w9 W)) (fun i _ => Y.length - (intOf i).toNat)
    case atStart => exact ⟨0, Nat.zero_le _, rfl, ⟨Below.refl _ _⟩⟩
    case round =>
      obtain ⟨j, hj, rfl, HW⟩ := hrel
      by_cases hlt : j < Y.length
      · have hjX : j < X.length := by have := HYL.out; have := HXL.out; omega
        have hjR : j < R.length := by have := HXL.out; omega
        obtain ⟨ad, A0, m0, A1, m1, eA, x0, x1, hl0, hr0, hl1, hr1⟩ := at_T37 (Kd.C_below HA9.out HW.out) (j : Int) (by omega) (by omega)
        obtain ⟨ad', B0, k0, B1, k1, eB, y0, y1, hk0, hs0, hk1, hs1⟩ := at_T37 (Kd.C_below HC9.out HW.out) (j : Int) (by omega) (by omega)
        have ea : ad = ⟨ga, 0, none⟩ := (Option.some.inj eA).symm
        have eb : ad' = ⟨g, 0, none⟩ := (Option.some.inj eB).symm
        subst ea eb
        simp only [Int.toNat_natCast, relAt_rd Y j hlt, relAt_rd X j hjX] at x0 x1 y0
        simp only [show ∀ l k, (relAt l k).f1 = fam l k from fun _ _ => rfl, show ∀ l k, (relAt l k).f0 = sch l k from fun _ _ => rfl, HYF.out j hjR, HYS.out, List.length_nil] at x0 x1 y0
        simp only [show ∀ a m, Addr.add ⟨a, 0, none⟩ m = ⟨a, m, none⟩ from fun a m => by simp [Addr.add] <;> omega] at x0 x1 y0
        have hju : (j : Int) < (Y.length : Int) := by omega
        have hjr : (j : Int) < (R.length : Int) := by omega
        clear hl0 hr0 hl1 hr1 hk0 hs0 hk1 hs1 y1 eA eB
        generalize (sch X j).length = z at *
        go_wp2_with fail
        go_quiet (fail)
        go_wp2_with fail
        go_roundw
        case measure => simp [intOf]; omega
        case rel => exact ⟨j + 1, by omega, by go_num, ⟨pw_below_drewN HW.out _⟩⟩
      · have hje : j = Y.length := by omega
        subst hje
        go_wp2
        go_ret
        exact ⟨rfl, HB9.out.trans (HW.out.mono HB9.out.size)⟩
end Go.Proofs.YtgpbhmcmbigbdaaDoor.G

namespace Go.Proofs.YtgpbhmcmbigbdaaDoor.passNone
open Go.ChangeShapes Go.WideShapes Go.ChangeAt Go.RowKit Go.Proofs.YtgpbhmcmbigbdaaDoorW.PrintWords Go.Proofs.YtgpbhmcmbigbdaaDoorW.PrintLast Go.Proofs.YtgpbhmcmbigbdaaDoorW.PrintMore Go.Proofs.YtgpbhmcmbigbdaaDoor.PRefs
set_option linter.unusedVariables false
theorem own : ownKnob Tryd.prog.godebug = none := by kernel_rfl
theorem laidOut : laidOutB Tryd.prog = true := by kernel_rfl
set_option maxRecDepth 100000 in
theorem lifted (os : Os) (started : os.Started) (H : Type) (enc : TypeId × Value → H) :
    ReturnsInHanded {} Tryd.checked os 4 .any (fun w args => (Rows.passNoneSpec.pre enc Tryd.prog Tryd.f4 [] false w args ∧ laidMetH Tryd.prog G.laidList w) ∧ sizedMet enc Tryd.prog Tryd.f4 (OpenSpec.ofChange Rows.passNoneSpec) false w args)
      (Rows.passNoneSpec.post enc Tryd.prog Tryd.f4 false true false false) := by
  refine returnsInHanded_of_change_and (C := Tryd.checked) (X := fun w _ => laidMetH Tryd.prog G.laidList w) (fun _ _ _ hh h => h.of_heap hh) own started (by kernel_rfl) Tryd.func4
    (ChangeSpec.witness_shaped (enc := enc) (C := Tryd.checked) (os := os) (X := fun w _ => laidMetH Tryd.prog G.laidList w) false (World.doorLaid Tryd.prog 400 os) #[.slice none 0 0, .int .i64 0] 8 rfl (World.shaped_of_RefB (by kernel_rfl) (by kernel_rfl)) (by kernel_rfl) (by kernel_rfl) (by kernel_rfl) (G.door_met os _)) ?_
  intro W base args ds gs before hval0 hW _ _ hL _
  have htab := G.tab_of hL
  have hval : ∀ (j : Nat) t v, Tryd.f4.params[j]? = some t → args[j]? = some v → Value.okWide Tryd.prog W .any base t v := hval0
  have hW' := hW
  obtain ⟨p, q, hA0, hV, rfl, hfz, hnd⟩ := hW
  have hA : DataW.TrodAll enc Tryd.prog W 0 (fun _ => true) true Tryd.f4.params.toList args.toList ds p := hA0
  rw [Tryd.params4] at hA hval
  obtain ⟨v0, vs0, d0, ds0, p0, q0, hargs, rfl, rfl, h0, r0⟩ := trodAll_cons hA
  obtain ⟨v1, vs1, d1, ds1, p1, q1, rfl, rfl, rfl, h1, r1⟩ := trodAll_cons r0
  obtain ⟨rfl, rfl, rfl⟩ := trodAll_nil r1
  obtain rfl : args = #[v0, v1] := by cases args; simp_all
  obtain ⟨rfl, rfl⟩ := trodVars_none hV
  obtain ⟨a0, len0, cap0, rfl⟩ := okWide_slice Tryd.underlying22 (hval 0 22 v0 rfl rfl)
  have k0 := h0
  have lt0 : ∀ x ∈ p0, x.block < W.heap.size := by obtain ⟨m, hm⟩ := k0; exact DataW.trod_lt m _ _ _ hm
  obtain ⟨z0, e0, l0, c0⟩ : ∃ xs : List S43, xs.length = len0 ∧ len0 ≤ cap0 ∧ Kd.C k43 W a0 xs.length xs := by obtain ⟨m, hm⟩ := h0; exact G.in_parts hm
  obtain ⟨a1, rfl, rfl, rfl, w1⟩ := open_int Tryd.underlying3 (hval 1 3 v1 rfl rfl) h1
  clear hA0 hval0
  subst e0
  refine (G.passnone_walk a0 cap0 z0 a1 W c0 l0 htab).mono fun e W' ⟨he, bel⟩ => ?_
  subst he
  exact ⟨_, rfl, _, _, _, [], _, [], hW', trodAll_mk1 (shut_bool Tryd.underlying4 _), (trodAll_cons_mk (Below.trod laidOut (by kernel_rfl) (of_decide_eq_true (by kernel_rfl)) k0 bel lt0) (trodAll_cons_mk (shut_int Tryd.underlying3 w1) trodAll_mk0)), rfl, bel.frame _, fun h => by cases h⟩
theorem over : Rows.passNoneRow.holds Tryd.pinned (OpenSpec.ofChange Rows.passNoneSpec) :=
  OpenClaim.holds_of_wide 4 Tryd.f4 rfl rfl rfl rfl rfl rfl rfl ⟨rfl, rfl, rfl, rfl, rfl⟩ rfl rfl rfl rfl rfl (by kernel_rfl) Tryd.func4 (by kernel_rfl)
    (of_decide_eq_true (by kernel_rfl)) (by unfold Func.isWrapper; first | (rw [if_pos (by decide +kernel)]; kernel_rfl) | (rw [if_neg (by decide +kernel)]; exact ⟨rfl, rfl⟩))
    (fun os started H enc _ => lifted os started H enc)
theorem proved : Rows.PassNoneCardSaid :=
  Claim7.holds_tied_plain_at .later [] [.data, .data, .data] true Rows.passNoneCard.stood.harness false
    over (fun _ h => by cases h) (by kernel_rfl) (fun _ h => by cases h) passNone_row_tie rfl ⟨rfl, rfl⟩ (by kernel_rfl) rfl
    (fun f fn hf hfn => by
      obtain rfl : f = 4 := Option.some.inj ((show Tryd.prog.funcNamed "arborist/arboristlaw16.PassNone" = some 4 by kernel_rfl).symm.trans hf) |>.symm
      obtain rfl : fn = Tryd.f4 := (Option.some.inj (Tryd.func4.symm.trans hfn)).symm
      exact ⟨by kernel_rfl, fun j t ht => by
        rw [Tryd.params4] at ht
        have hm : t ∈ [22, 3] := by simpa using Array.mem_of_getElem? ht
        have hall : ([22, 3].all fun u => !Tryd.prog.wantsStandIn u) = true := by kernel_rfl
        exact (show Tryd.prog.wantsStandIn t = false by simpa using List.all_eq_true.1 hall t hm)⟩)
    (by kernel_rfl)
#print axioms proved
end Go.Proofs.YtgpbhmcmbigbdaaDoor.passNone
