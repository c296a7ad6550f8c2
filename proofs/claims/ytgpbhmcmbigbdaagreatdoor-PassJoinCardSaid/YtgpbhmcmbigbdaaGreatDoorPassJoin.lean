/- Proved: for every input the law arboristlaw16.PassJoin returns true and its arguments read as they did; what the program's tables hold at the start is tied to the program's text. No condition. -/
import Derived.Test.YtgpbhmcmbigbdaaGreatDoorRows
import Derived.Test.YtgpbhmcmbigbdaaGreatDoorCards
import Derived.Test.YtgpbhmcmbigbdaaGreatDoorTie
import Derived.Test.YtgpbhmcmbigbdaaGreatDoorMN
import Derived.Test.YtgpbhmcmbigbdaaGreatDoorMR
import Derived.Deep.Matrix
import Derived.ProofKit
import Derived.OpenShut
import Derived.WalkKit
import Derived.ShutString
import Derived.ChangeOld
import Derived.Below
import Derived.SevenTiedAt
import Derived.Stop.Joined
import Derived.Deep.DeepCutAuto
set_option linter.unusedVariables false
set_option linter.unusedSimpArgs false
namespace Go.Proofs.YtgpbhmcmbigbdaaGreatDoor.G
open Go.RowKit Go.Proofs.YtgpbhmcmbigbdaaGreatDoorW.PrintWords Go.Proofs.YtgpbhmcmbigbdaaGreatDoorW.PrintLast Go.Proofs.YtgpbhmcmbigbdaaGreatDoorW.PrintMore Go.Proofs.YtgpbhmcmbigbdaaGreatDoor.PRefs
attribute [local go_sem] min2_mn min_two

set_option maxHeartbeats 4000000 in
set_option maxRecDepth 100000 in
theorem passjoin_walk (A0 : Option Addr) (c0 : Nat) (l : List S75) (w : World) (hr0 : Kd.C k75 w A0 l.length l) (hc0 : l.length ≤ c0) (htab : Tab w) :
    Calls Tryz.prog 5 #[.slice A0 l.length c0] w fun e w' => e = .returned (.bool true) ∧ Below w.heap.size w w' := by
  have HT := Aside0.mk htab
  clear htab
  have HIN := Aside0.mk hr0
  have HB0 := Aside0.mk (Below.refl w.heap.size w)
  have hsm := smL_sh l
  have htr := tree_shape l
  have hln := sh_lens l
  have hdesc := desc_shape l
  obtain ⟨B, hB⟩ : ∃ B, shBags l = B := ⟨_, rfl⟩
  obtain ⟨P, hP⟩ : ∃ P, shPars l = P := ⟨_, rfl⟩
  obtain ⟨R, hR⟩ : ∃ R, shRels l = R := ⟨_, rfl⟩
  have HBP := Aside0.mk (And.intro hB (And.intro hP hR))
  rw [hB, hP, hR] at hln
  rw [hP] at htr hdesc
  rw [hR] at hsm
  have hRB : R.length = B.length := hln.2.symm
  have hRP : R.length = P.length := hln.1.symm
  have hTT : TreeOf R.length (parOf P) id := by rw [hRP]; exact htr.tree
  have hBE : Behind R.length (parOf P) (afterN P) := by rw [hRP]; exact (after_is htr).2
  have hR6 := hsm.1
  have HTR := Aside0.mk htr
  have HN := Aside0.mk (And.intro hRB hRP)
  have HF := Aside0.mk hsm.fit
  have HS := Aside0.mk hsm
  obtain ⟨u1, u2, u3⟩ := redL_is hTT (afterN P)
  have hUsm := hsm.red hTT (afterN P)
  have hagain := red_again hTT hBE
  have hset := red_is_settled hTT hBE hsm.fit.rt.right
  have hsubU : ∀ k, ∀ t ∈ fam (redL (parOf P) (afterN P) R) k, t ∈ fam R k := fun k t ht => by rw [u3] at ht; exact (redF_sub _ _ _ _ k).subset ht
  obtain ⟨U, hU⟩ : ∃ U, redL (parOf P) (afterN P) R = U := ⟨_, rfl⟩
  rw [hU] at u1 u2 hUsm hagain hset hsubU
  have HU := Aside0.mk hU
  have HUU := Aside0.mk hagain
  have HSU := Aside0.mk hUsm
  have HFU := Aside0.mk hUsm.fit
  have HNU := Aside0.mk (And.intro (u1.trans hRB) (u1.trans hRP))
  have HSET := Aside0.mk (show settledB P U = true from decide_eq_true ((settledP_dec P U).2 hset))
  have HSUB := Aside0.mk hsubU
  have hU6 := hUsm.1
  have hUR : ((U.length : Int) != (R.length : Int)) = false := by simp [u1]
  have HUL := Aside0.mk u1
  have hS1 : ∀ r ∈ R, Sm r.f0 r.f1 := fun r hr => by obtain ⟨k, hk, e⟩ := mem_relAt hr; have h := hsm.2 k hk; unfold sch fam at h; rw [e] at h; exact h
  have hS2 : ∀ r ∈ U, Sm r.f0 r.f1 := fun r hr => by obtain ⟨k, hk, e⟩ := mem_relAt hr; have h := hUsm.2 k hk; unfold sch fam at h; rw [e] at h; exact h
  have hD := AllR_f R 2000 (by omega) hS1 (by omega)
  have hD2 := AllR_f U 2000 (by omega) hS2 (by omega)
  have hJ := fun r (h : allRel 2000 R ([], [[]]) = some r) => join_red hTT hBE hsm.fit.rt.right rt_unit.r h
  rw [hU] at hJ
  have hRR := fun r => allRel_rt 2000 (by omega) R ([], [[]]) r hS1 rt_unit (by simp; omega) (by simp)
  clear hr0 htr hln hdesc hB hP hR hRB hRP hTT hBE hsm u1 u2 u3 hUsm hagain hset hsubU hU hS1 hS2
  cases hq : allRel 2000 R ([], [[]]) with
  | none =>
    rw [allDoc, hq] at hD
    have HE := Aside0.mk (And.intro hD hD)
    clear hD hD2 hJ hRR hq
    go_enter Tryz.func5, Tryz.ntmps5
    go_wp2_with (first
      | (have hgd := HB3; clear hgd; go_at_call 28; refine (docall_is Hst3.out.sh.rd.2.1 Hst3.out.sh.rd.2.2 HE.out.1).mono ?_; rintro e w4 ⟨Ar, cr, Dr, dr, rfl, hrd4, hb4⟩; have hx4 := below_box hb4 (.cells #[.slice Ar 0 cr, .slice Dr 0 dr] 27); have HB4 := Aside0.mk (below_then HB3.out HB3.out.size hx4); have Hst4 := Aside0.mk (Hst3.out.step hx4); have Hca4 := Aside0.mk (Kd.C_below Hca3.out hx4); have Hxr4 := Aside0.mk (RelBx.new hrd4); clear qt0_3 qt1_3; have qt0_4 := blk2_c0 Hst4.out.box; have qt1_4 := blk2_c1 Hst4.out.box; clear hb4 hx4 hrd4)
      | (have hgd := HB2; clear hgd; go_at_call 22; refine (reduce_any (dep := id) (root := 0) Ab B.length cb Ap cp P Ao co R _ Hst2.out.sh.rd.1 Hst2.out.sh.rd.2.1 HTR.out HN.out.1 HN.out.2 HF.out (HT.out.step HB2.out)).mono ?_; rintro e w3 ⟨v3, rfl, hv3, hb3⟩; rw [HU.out] at hv3; obtain ⟨ga, rfl, hC3⟩ := hv3.val (by unfold maxLen; omega); have HB3 := Aside0.mk (below_then HB2.out HB2.out.size hb3); have Hst3 := Aside0.mk (Hst2.out.step hb3); have Hca3 := Aside0.mk hC3; clear qt0_2 qt1_2; have qt0_3 := blk2_c0 Hst3.out.box; have qt1_3 := blk2_c1 Hst3.out.box; clear hb3 hv3 hC3)
      | (have hgd := HB1; clear hgd; go_at_call 19; refine (shape_is (Kd.C_below HIN.out HB1.out) HBP.out.1 HBP.out.2.1 HBP.out.2.2).mono ?_; rintro e w2 ⟨Ab, cb, Ap, cp, Ao, co, rfl, hsh, hb2⟩; have hx2 := below_box hb2 (.cells #[.slice Ab B.length cb, .slice Ap P.length cp] 38); have HB2 := Aside0.mk (below_then HB1.out HB1.out.size hx2); have Hst2 := Aside0.mk (PSt.new (below_then HB1.out HB1.out.size hb2) hsh); have qt0_2 := blk2_c0 Hst2.out.box; have qt1_2 := blk2_c1 Hst2.out.box; clear hb2 hx2 hsh)
      | (have hgd := HB0; clear hgd; go_at_call 18; refine (shown16_any _ (HT.out.step HB0.out)).mono ?_; rintro e w1 ⟨rfl, hb1⟩; have HB1 := Aside0.mk (below_then HB0.out HB0.out.size hb1); clear hb1))
    go_ret
    exact ⟨rfl, HB4.out⟩
  | some r =>
    have hq2 := hJ _ hq
    obtain ⟨hrt, hV, hK⟩ := hRR _ hq
    obtain ⟨V, J⟩ := r
    rw [allDoc, hq] at hD
    rw [allDoc, hq2] at hD2
    have HE := Aside0.mk (And.intro hD hD2)
    have HX := Aside0.mk hrt.r.2.1
    have hV' : V.length ≤ 300 := hV
    have hK' : J.length ≤ 4000 := hK
    clear hD hD2 hJ hRR hq hq2 hrt hV hK
    go_enter Tryz.func5, Tryz.ntmps5
    go_wp2_with (first
      | (have hgd := HB5; clear hgd; go_at_call 12; refine (docsame_is Hxr5.out.rd Hxd5.out.rd (by omega) (by omega) HX.out).mono ?_; rintro e w6 ⟨rfl, hb6⟩; have HB6 := Aside0.mk (below_then HB5.out HB5.out.size hb6); have Hst6 := Aside0.mk (Hst5.out.step hb6); have Hca6 := Aside0.mk (Kd.C_below Hca5.out hb6); have Hxr6 := Aside0.mk (Hxr5.out.step hb6); have Hxd6 := Aside0.mk (Hxd5.out.step hb6); clear qt0_5 qt1_5; have qt0_6 := blk2_c0 Hst6.out.box; have qt1_6 := blk2_c1 Hst6.out.box; clear hb6)
      | (have hgd := HB4; clear hgd; go_at_call 28; refine (docall_is Hca4.out (Nat.le_refl _) HE.out.2).mono ?_; rintro e w5 ⟨Ad, cd, Dd, dd, rfl, hrd5, hb5⟩; have hx5 := below_box hb5 (.cells #[.slice Ad V.length cd, .slice Dd J.length dd] 27); have HB5 := Aside0.mk (below_then HB4.out HB4.out.size hx5); have Hst5 := Aside0.mk (Hst4.out.step hx5); have Hca5 := Aside0.mk (Kd.C_below Hca4.out hx5); have Hxr5 := Aside0.mk (Hxr4.out.step hx5); have Hxd5 := Aside0.mk (RelBx.new hrd5); have qr0 := blk2_c0 Hxr5.out.blk; have qr1 := blk2_c1 Hxr5.out.blk; have qd0 := blk2_c0 Hxd5.out.blk; have qd1 := blk2_c1 Hxd5.out.blk; clear qt0_4 qt1_4; have qt0_5 := blk2_c0 Hst5.out.box; have qt1_5 := blk2_c1 Hst5.out.box; clear hb5 hx5 hrd5)
      | (have hgd := HB3; clear hgd; go_at_call 28; refine (docall_is Hst3.out.sh.rd.2.1 Hst3.out.sh.rd.2.2 HE.out.1).mono ?_; rintro e w4 ⟨Ar, cr, Dr, dr, rfl, hrd4, hb4⟩; have hx4 := below_box hb4 (.cells #[.slice Ar V.length cr, .slice Dr J.length dr] 27); have HB4 := Aside0.mk (below_then HB3.out HB3.out.size hx4); have Hst4 := Aside0.mk (Hst3.out.step hx4); have Hca4 := Aside0.mk (Kd.C_below Hca3.out hx4); have Hxr4 := Aside0.mk (RelBx.new hrd4); clear qt0_3 qt1_3; have qt0_4 := blk2_c0 Hst4.out.box; have qt1_4 := blk2_c1 Hst4.out.box; clear hb4 hx4 hrd4)
      | (have hgd := HB2; clear hgd; go_at_call 22; refine (reduce_any (dep := id) (root := 0) Ab B.length cb Ap cp P Ao co R _ Hst2.out.sh.rd.1 Hst2.out.sh.rd.2.1 HTR.out HN.out.1 HN.out.2 HF.out (HT.out.step HB2.out)).mono ?_; rintro e w3 ⟨v3, rfl, hv3, hb3⟩; rw [HU.out] at hv3; obtain ⟨ga, rfl, hC3⟩ := hv3.val (by unfold maxLen; omega); have HB3 := Aside0.mk (below_then HB2.out HB2.out.size hb3); have Hst3 := Aside0.mk (Hst2.out.step hb3); have Hca3 := Aside0.mk hC3; clear qt0_2 qt1_2; have qt0_3 := blk2_c0 Hst3.out.box; have qt1_3 := blk2_c1 Hst3.out.box; clear hb3 hv3 hC3)
      | (have hgd := HB1; clear hgd; go_at_call 19; refine (shape_is (Kd.C_below HIN.out HB1.out) HBP.out.1 HBP.out.2.1 HBP.out.2.2).mono ?_; rintro e w2 ⟨Ab, cb, Ap, cp, Ao, co, rfl, hsh, hb2⟩; have hx2 := below_box hb2 (.cells #[.slice Ab B.length cb, .slice Ap P.length cp] 38); have HB2 := Aside0.mk (below_then HB1.out HB1.out.size hx2); have Hst2 := Aside0.mk (PSt.new (below_then HB1.out HB1.out.size hb2) hsh); have qt0_2 := blk2_c0 Hst2.out.box; have qt1_2 := blk2_c1 Hst2.out.box; clear hb2 hx2 hsh)
      | (have hgd := HB0; clear hgd; go_at_call 18; refine (shown16_any _ (HT.out.step HB0.out)).mono ?_; rintro e w1 ⟨rfl, hb1⟩; have HB1 := Aside0.mk (below_then HB0.out HB0.out.size hb1); clear hb1))
    go_ret
    exact ⟨rfl, HB6.out⟩
end Go.Proofs.YtgpbhmcmbigbdaaGreatDoor.G

namespace Go.Proofs.YtgpbhmcmbigbdaaGreatDoor.passJoin
open Go.ChangeShapes Go.WideShapes Go.ChangeAt Go.RowKit Go.Proofs.YtgpbhmcmbigbdaaGreatDoorW.PrintWords Go.Proofs.YtgpbhmcmbigbdaaGreatDoorW.PrintLast Go.Proofs.YtgpbhmcmbigbdaaGreatDoorW.PrintMore Go.Proofs.YtgpbhmcmbigbdaaGreatDoor.PRefs
set_option linter.unusedVariables false
theorem own : ownKnob Tryz.prog.godebug = none := by kernel_rfl
theorem laidOut : laidOutB Tryz.prog = true := by kernel_rfl
set_option maxRecDepth 100000 in
theorem lifted (os : Os) (started : os.Started) (H : Type) (enc : TypeId × Value → H) :
    ReturnsInHanded {} Tryz.checked os 5 .any (fun w args => (Rows.passJoinSpec.pre enc Tryz.prog Tryz.f5 [] false w args ∧ laidMetH Tryz.prog G.laidList w) ∧ sizedMet enc Tryz.prog Tryz.f5 (OpenSpec.ofChange Rows.passJoinSpec) false w args)
      (Rows.passJoinSpec.post enc Tryz.prog Tryz.f5 false true false false) := by
  refine returnsInHanded_of_change_and (C := Tryz.checked) (X := fun w _ => laidMetH Tryz.prog G.laidList w) (fun _ _ _ hh h => h.of_heap hh) own started (by kernel_rfl) Tryz.func5
    (ChangeSpec.witness_shaped (enc := enc) (C := Tryz.checked) (os := os) (X := fun w _ => laidMetH Tryz.prog G.laidList w) false (World.doorLaid Tryz.prog 400 os) #[.slice none 0 0] 8 rfl (World.shaped_of_RefB (by kernel_rfl) (by kernel_rfl)) (by kernel_rfl) (by kernel_rfl) (by kernel_rfl) (G.door_met os _)) ?_
  intro W base args ds gs before hval0 hW _ _ hL _
  have htab := G.tab_of hL
  have hval : ∀ (j : Nat) t v, Tryz.f5.params[j]? = some t → args[j]? = some v → Value.okWide Tryz.prog W .any base t v := hval0
  have hW' := hW
  obtain ⟨p, q, hA0, hV, rfl, hfz, hnd⟩ := hW
  have hA : DataW.TrodAll enc Tryz.prog W 0 (fun _ => true) true Tryz.f5.params.toList args.toList ds p := hA0
  rw [Tryz.params5] at hA hval
  obtain ⟨v0, vs0, d0, ds0, p0, q0, hargs, rfl, rfl, h0, r0⟩ := trodAll_cons hA
  obtain ⟨rfl, rfl, rfl⟩ := trodAll_nil r0
  obtain rfl : args = #[v0] := by cases args; simp_all
  obtain ⟨rfl, rfl⟩ := trodVars_none hV
  obtain ⟨a0, len0, cap0, rfl⟩ := okWide_slice Tryz.underlying36 (hval 0 36 v0 rfl rfl)
  have k0 := h0
  have lt0 : ∀ x ∈ p0, x.block < W.heap.size := by obtain ⟨m, hm⟩ := k0; exact DataW.trod_lt m _ _ _ hm
  obtain ⟨z0, e0, l0, c0⟩ : ∃ xs : List S75, xs.length = len0 ∧ len0 ≤ cap0 ∧ Kd.C k75 W a0 xs.length xs := by obtain ⟨m, hm⟩ := h0; exact G.in_parts hm
  clear hA0 hval0
  subst e0
  refine (G.passjoin_walk a0 cap0 z0 W c0 l0 htab).mono fun e W' ⟨he, bel⟩ => ?_
  subst he
  exact ⟨_, rfl, _, _, _, [], _, [], hW', trodAll_mk1 (shut_bool Tryz.underlying4 _), (trodAll_cons_mk (Below.trod laidOut (by kernel_rfl) (of_decide_eq_true (by kernel_rfl)) k0 bel lt0) trodAll_mk0), rfl, bel.frame _, fun h => by cases h⟩
theorem over : Rows.passJoinRow.holds Tryz.pinned (OpenSpec.ofChange Rows.passJoinSpec) :=
  OpenClaim.holds_of_wide 5 Tryz.f5 rfl rfl rfl rfl rfl rfl rfl ⟨rfl, rfl, rfl, rfl, rfl⟩ rfl rfl rfl rfl rfl (by kernel_rfl) Tryz.func5 (by kernel_rfl)
    (of_decide_eq_true (by kernel_rfl)) (by unfold Func.isWrapper; first | (rw [if_pos (by decide +kernel)]; kernel_rfl) | (rw [if_neg (by decide +kernel)]; exact ⟨rfl, rfl⟩))
    (fun os started H enc _ => lifted os started H enc)
theorem proved : Rows.PassJoinCardSaid :=
  Claim7.holds_tied_plain_at .later [] [.data, .data, .data] true Rows.passJoinCard.stood.harness false
    over (fun _ h => by cases h) (by kernel_rfl) (fun _ h => by cases h) passJoin_row_tie rfl ⟨rfl, rfl⟩ (by kernel_rfl) rfl
    (fun f fn hf hfn => by
      obtain rfl : f = 5 := Option.some.inj ((show Tryz.prog.funcNamed "arborist/arboristlaw16.PassJoin" = some 5 by kernel_rfl).symm.trans hf) |>.symm
      obtain rfl : fn = Tryz.f5 := (Option.some.inj (Tryz.func5.symm.trans hfn)).symm
      exact ⟨by kernel_rfl, fun j t ht => by
        rw [Tryz.params5] at ht
        have hm : t ∈ [36] := by simpa using Array.mem_of_getElem? ht
        have hall : ([36].all fun u => !Tryz.prog.wantsStandIn u) = true := by kernel_rfl
        exact (show Tryz.prog.wantsStandIn t = false by simpa using List.all_eq_true.1 hall t hm)⟩)
    (by kernel_rfl)
#print axioms proved
end Go.Proofs.YtgpbhmcmbigbdaaGreatDoor.passJoin
