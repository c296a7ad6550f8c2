/- Proved: for every input the law arboristlaw16.PassSettles returns true and its arguments read as they did; what the program's tables hold at the start is tied to the program's text. No condition. -/
import Derived.Test.YtgpbhmcmbigbdaaDoorRows
import Derived.Test.YtgpbhmcmbigbdaaDoorCards
import Derived.Test.YtgpbhmcmbigbdaaDoorTie
import Derived.Test.YtgpbhmcmbigbdaaDoorMN
import Derived.Deep.Matrix
import Derived.ProofKit
import Derived.OpenShut
import Derived.WalkKit
import Derived.ShutString
import Derived.ChangeOld
import Derived.Below
import Derived.SevenTiedAt
import Derived.Stop.Joined
import Derived.Deep.DeepCutAuto
set_option linter.unusedVariables false
set_option linter.unusedSimpArgs false
namespace Go.Proofs.YtgpbhmcmbigbdaaDoor.G
open Go.RowKit Go.Proofs.YtgpbhmcmbigbdaaDoorW.PrintWords Go.Proofs.YtgpbhmcmbigbdaaDoorW.PrintLast Go.Proofs.YtgpbhmcmbigbdaaDoorW.PrintMore Go.Proofs.YtgpbhmcmbigbdaaDoor.PRefs
attribute [local go_sem] min2_mn min_two

set_option maxHeartbeats 4000000 in
set_option maxRecDepth 100000 in
theorem passsettles_walk (A0 : Option Addr) (c0 : Nat) (l : List S43) (w : World) (hr0 : Kd.C k43 w A0 l.length l) (hc0 : l.length ≤ c0) (htab : Tab w) :
    Calls Tryd.prog 3 #[.slice A0 l.length c0] w fun e w' => e = .returned (.bool true) ∧ Below w.heap.size w w' := by
  have HT := Aside0.mk htab
  clear htab
  have HIN := Aside0.mk hr0
  have HB0 := Aside0.mk (Below.refl w.heap.size w)
  have hsm := smL_sh l
  have htr := tree_shape l
  have hln := sh_lens l
  have hdesc := desc_shape l
  obtain ⟨B, hB⟩ : ∃ B, shBags l = B := ⟨_, rfl⟩
  obtain ⟨P, hP⟩ : ∃ P, shPars l = P := ⟨_, rfl⟩
  obtain ⟨R, hR⟩ : ∃ R, shRels l = R := ⟨_, rfl⟩
  have HBP := Aside0.mk (And.intro hB (And.intro hP hR))
  rw [hB, hP, hR] at hln
  rw [hP] at htr hdesc
  rw [hR] at hsm
  have hRB : R.length = B.length := hln.2.symm
  have hRP : R.length = P.length := hln.1.symm
  have hTT : TreeOf R.length (parOf P) id := by rw [hRP]; exact htr.tree
  have hBE : Behind R.length (parOf P) (afterN P) := by rw [hRP]; exact (after_is htr).2
  have hR6 := hsm.1
  have HTR := Aside0.mk htr
  have HN := Aside0.mk (And.intro hRB hRP)
  have HF := Aside0.mk hsm.fit
  have HS := Aside0.mk hsm
  obtain ⟨u1, u2, u3⟩ := redL_is hTT (afterN P)
  have hUsm := hsm.red hTT (afterN P)
  have hagain := red_again hTT hBE
  have hset := red_is_settled hTT hBE hsm.fit.rt.right
  have hsubU : ∀ k, ∀ t ∈ fam (redL (parOf P) (afterN P) R) k, t ∈ fam R k := fun k t ht => by rw [u3] at ht; exact (redF_sub _ _ _ _ k).subset ht
  obtain ⟨U, hU⟩ : ∃ U, redL (parOf P) (afterN P) R = U := ⟨_, rfl⟩
  rw [hU] at u1 u2 hUsm hagain hset hsubU
  have HU := Aside0.mk hU
  have HUU := Aside0.mk hagain
  have HSU := Aside0.mk hUsm
  have HFU := Aside0.mk hUsm.fit
  have HNU := Aside0.mk (And.intro (u1.trans hRB) (u1.trans hRP))
  have HSET := Aside0.mk (show settledB P U = true from decide_eq_true ((settledP_dec P U).2 hset))
  have HSUB := Aside0.mk hsubU
  have hU6 := hUsm.1
  have hUR : ((U.length : Int) != (R.length : Int)) = false := by simp [u1]
  have HUL := Aside0.mk u1
  clear hr0 htr hln hdesc hB hP hR hRB hRP hTT hBE hsm u1 u2 u3 hUsm hagain hset hsubU hU
  go_enter Tryd.func3, Tryd.ntmps3
  go_upto_region 7 with (first
    | (have hgd := HB5; clear hgd; go_at_call 10; refine (settled_any (dep := id) (root := 0) Ab B.length cb Ap cp P (some ⟨ga, 0, none⟩) U.length U _ Hst5.out.sh.rd.1 Hca5.out HTR.out HNU.out.1 HNU.out.2 HFU.out true HSET.out).mono ?_; rintro e w6 ⟨rfl, hb6⟩; have HB6 := Aside0.mk (below_then HB5.out HB5.out.size hb6); have Hst6 := Aside0.mk (Hst5.out.step hb6); have Hca6 := Aside0.mk (Kd.C_below Hca5.out hb6); have Hcb6 := Aside0.mk (Kd.C_below Hcb5.out hb6); clear qt0_5 qt1_5; have qt0_6 := blk2_c0 Hst6.out.box; have qt1_6 := blk2_c1 Hst6.out.box; clear hb6)
    | (have hgd := HB4; clear hgd; go_at_call 9; refine (same16_is HSU.out Hca4.out (Nat.le_refl _) Hcb4.out (Nat.le_refl _)).mono ?_; rintro e w5 ⟨rfl, hb5⟩; have HB5 := Aside0.mk (below_then HB4.out HB4.out.size hb5); have Hst5 := Aside0.mk (Hst4.out.step hb5); have Hca5 := Aside0.mk (Kd.C_below Hca4.out hb5); have Hcb5 := Aside0.mk (Kd.C_below Hcb4.out hb5); clear qt0_4 qt1_4; have qt0_5 := blk2_c0 Hst5.out.box; have qt1_5 := blk2_c1 Hst5.out.box; clear hb5)
    | (have hgd := HB3; clear hgd; go_at_call 8; refine (reduce_any (dep := id) (root := 0) Ab B.length cb Ap cp P (some ⟨ga, 0, none⟩) U.length U _ Hst3.out.sh.rd.1 Hca3.out HTR.out HNU.out.1 HNU.out.2 HFU.out (HT.out.step HB3.out)).mono ?_; rintro e w4 ⟨v4, rfl, hv4, hb4⟩; rw [HUU.out] at hv4; obtain ⟨gb, rfl, hC4⟩ := hv4.val (by unfold maxLen; omega); have HB4 := Aside0.mk (below_then HB3.out HB3.out.size hb4); have Hst4 := Aside0.mk (Hst3.out.step hb4); have Hca4 := Aside0.mk (Kd.C_below Hca3.out hb4); have Hcb4 := Aside0.mk hC4; clear qt0_3 qt1_3; have qt0_4 := blk2_c0 Hst4.out.box; have qt1_4 := blk2_c1 Hst4.out.box; clear hb4 hv4 hC4)
    | (have hgd := HB2; clear hgd; go_at_call 8; refine (reduce_any (dep := id) (root := 0) Ab B.length cb Ap cp P Ao co R _ Hst2.out.sh.rd.1 Hst2.out.sh.rd.2.1 HTR.out HN.out.1 HN.out.2 HF.out (HT.out.step HB2.out)).mono ?_; rintro e w3 ⟨v3, rfl, hv3, hb3⟩; rw [HU.out] at hv3; obtain ⟨ga, rfl, hC3⟩ := hv3.val (by unfold maxLen; omega); have HB3 := Aside0.mk (below_then HB2.out HB2.out.size hb3); have Hst3 := Aside0.mk (Hst2.out.step hb3); have Hca3 := Aside0.mk hC3; clear qt0_2 qt1_2; have qt0_3 := blk2_c0 Hst3.out.box; have qt1_3 := blk2_c1 Hst3.out.box; clear hb3 hv3 hC3)
    | (have hgd := HB1; clear hgd; go_at_call 7; refine (shape_is (Kd.C_below HIN.out HB1.out) HBP.out.1 HBP.out.2.1 HBP.out.2.2).mono ?_; rintro e w2 ⟨Ab, cb, Ap, cp, Ao, co, rfl, hsh, hb2⟩; have hx2 := below_box hb2 (.cells #[.slice Ab B.length cb, .slice Ap P.length cp] 27); have HB2 := Aside0.mk (below_then HB1.out HB1.out.size hx2); have Hst2 := Aside0.mk (PSt.new (below_then HB1.out HB1.out.size hb2) hsh); have qt0_2 := blk2_c0 Hst2.out.box; have qt1_2 := blk2_c1 Hst2.out.box; clear hb2 hx2 hsh)
    | (have hgd := HB0; clear hgd; go_at_call 6; refine (shown16_any _ (HT.out.step HB0.out)).mono ?_; rintro e w1 ⟨rfl, hb1⟩; have HB1 := Aside0.mk (below_then HB0.out HB0.out.size hb1); clear hb1))
  clear qt0_6 qt1_6
  have HZ := Aside0.mk (And.intro HB6.out (And.intro Hca6.out Hst6.out.sh.rd.2.1))
  clear HB6 Hca6 Hcb6 Hst6
  go_wp2_with fail
  go_loopw [10] (fun i W => ∃ (j : Nat), j ≤ U.length ∧ i = .int .i64 j ∧ Aside0 (Below w6.heap.size w6 W)) (fun i _ => U.length - (intOf i).toNat)
  case atStart => exact ⟨0, Nat.zero_le _, rfl, ⟨Below.refl _ _⟩⟩
  case round =>
    obtain ⟨j, hj, rfl, HW⟩ := hrel
    by_cases hlt : j < U.length
    · have hjR : j < R.length := by have := HUL.out; omega
      obtain ⟨ad, A0, n0, A1, n1, eA, x0, x1, hl0, hr0, hl1, hr1⟩ := at_T37 HZ.out.2.1 (j : Int) (by omega) (by omega)
      obtain ⟨ad', B0, m0, B1, m1, eB, y0, y1, hk0, hs0, hk1, hs1⟩ := at_T37 HZ.out.2.2 (j : Int) (by omega) (by omega)
      have hga : ad = ⟨ga, 0, none⟩ := (Option.some.inj eA).symm
      subst hga eB
      simp only [Int.toNat_natCast, relAt_rd U j hlt, relAt_rd R j hjR] at x0 x1 hl0 hr0 hl1 hr1 y0 y1 hk0 hs0 hk1 hs1
      simp only [show ∀ l k, (relAt l k).f1 = fam l k from fun _ _ => rfl] at x1 hl1 hr1 y1 hk1 hs1
      simp only [show ∀ m, Addr.add ⟨ga, 0, none⟩ m = ⟨ga, m, none⟩ from fun m => by simp [Addr.add]; omega] at x1
      have hju : (j : Int) < (U.length : Int) := by omega
      have hjr : (j : Int) < (R.length : Int) := by omega
      have hmU := HSU.out.2 j hlt
      have hmR := HS.out.2 j hjR
      have hsub := HSUB.out j
      have HX := Aside0.mk (And.intro hr1 (And.intro hl1 (And.intro hs1 (And.intro hk1 (And.intro x1 (And.intro y1 (And.intro hmU (And.intro hmR hsub))))))))
      have hLl := hmU.l
      have hMl := hmR.l
      have hxx : ∀ {p : Addr} {v : Value} {W : World}, Below w6.heap.size w6 W → w6.cell? p = some v → W.cell? p = some v := fun hb h => (hb.cell (World.block_lt_of_cell? w6 _ h)).trans h
      have HXX := Aside0.mk @hxx
      clear hr0 hl0 hs0 hk0 x0 y0 hr1 hl1 hs1 hk1 hmU hmR hsub eA hxx
      generalize fam U j = L at *
      generalize fam R j = M at *
      replace x1 := HXX.out HW.out x1
      replace y1 := HXX.out HW.out y1
      rename World => wo
      go_wp2_with fail
      go_loopw [11] (fun i W => ∃ (q : Nat), q ≤ L.length ∧ i = .int .i64 q ∧ Aside0 (Below w6.heap.size w6 W)) (fun i _ => L.length - (intOf i).toNat)
      case atStart => exact ⟨0, Nat.zero_le _, rfl, HW⟩
      case round =>
        clear HW
        obtain ⟨q, hq, rfl, HW⟩ := hrel
        replace x1 := HXX.out HW.out HX.out.2.2.2.2.1
        replace y1 := HXX.out HW.out HX.out.2.2.2.2.2.1
        by_cases hql : q < L.length
        · obtain ⟨adr, Bt, ct, rfl, hz, hlt', hCt⟩ := at_row HX.out.1 HW.out q hql
          have hql' : (q : Int) < (L.length : Int) := by omega
          have htm : L.getD q [] ∈ L := by rw [getD_get _ _ hql]; exact List.getElem_mem hql
          have htM := HX.out.2.2.2.2.2.2.2.2 _ htm
          have htl : (L.getD q []).length ≤ 1000 := by rw [HX.out.2.2.2.2.2.2.1.rt.r.2.1 _ htm]; have := HX.out.2.2.2.2.2.2.1.s; omega
          obtain ⟨t, ht⟩ : ∃ t, t = L.getD q [] := ⟨_, rfl⟩
          rw [← ht] at hz hlt' hCt htM htl
          have HF3 := Aside0.mk (And.intro hCt (And.intro hlt' (And.intro htM htl)))
          have hMx : ∀ x ∈ M, x.length ≤ 1000 := fun x hx => by rw [HX.out.2.2.2.2.2.2.2.1.rt.r.2.1 x hx]; have := HX.out.2.2.2.2.2.2.2.1.s; omega
          have HMX := Aside0.mk hMx
          clear ht htm hCt htM hMx
          go_upto_region 13 with fail
          have JST := Aside0.mk (show ∀ {W W' : World}, ((W.cell? ⟨ga, j * 2 + 1, none⟩ = some (.slice (some adr) L.length n1) ∧ W.cell? ⟨(ad'.add (j * 2)).block, (ad'.add (j * 2)).off + 1, none⟩ = some (.slice B1 M.length m1) ∧ W.cell? (adr.add q) = some (.slice Bt t.length ct) ∧ Below wr.heap.size wr W)) → Below W.heap.size W W' → ((W'.cell? ⟨ga, j * 2 + 1, none⟩ = some (.slice (some adr) L.length n1) ∧ W'.cell? ⟨(ad'.add (j * 2)).block, (ad'.add (j * 2)).off + 1, none⟩ = some (.slice B1 M.length m1) ∧ W'.cell? (adr.add q) = some (.slice Bt t.length ct) ∧ Below wr.heap.size wr W')) from fun {W W'} h hb => ⟨(hb.cell (World.block_lt_of_cell? W _ h.1)).trans h.1, (hb.cell (World.block_lt_of_cell? W _ h.2.1)).trans h.2.1, (hb.cell (World.block_lt_of_cell? W _ h.2.2.1)).trans h.2.2.1, below_then h.2.2.2 h.2.2.2.size hb⟩)
          have JS0 := Aside0.mk (show (wr.cell? ⟨ga, j * 2 + 1, none⟩ = some (.slice (some adr) L.length n1) ∧ wr.cell? ⟨(ad'.add (j * 2)).block, (ad'.add (j * 2)).off + 1, none⟩ = some (.slice B1 M.length m1) ∧ wr.cell? (adr.add q) = some (.slice Bt t.length ct) ∧ Below wr.heap.size wr wr) from ⟨x1, y1, hz, Below.refl _ _⟩)
          have JSD := Aside0.mk (JST.out JS0.out (below_drew (Below.refl _ _)))
          go_region_held3 (fun W => (W.cell? ⟨ga, j * 2 + 1, none⟩ = some (.slice (some adr) L.length n1) ∧ W.cell? ⟨(ad'.add (j * 2)).block, (ad'.add (j * 2)).off + 1, none⟩ = some (.slice B1 M.length m1) ∧ W.cell? (adr.add q) = some (.slice Bt t.length ct) ∧ Below wr.heap.size wr W))
            (first | with_reducible exact JS4.out | with_reducible exact JSD.out | with_reducible exact JS0.out | with_reducible exact JST.out (by assumption) (below_drew (Below.refl _ _)))
            (first
              | (go_at_call 11; refine (find_is (Kd.C_below HX.out.2.2.1 (HW.out.trans ((by assumption : _ ∧ _ ∧ _ ∧ Below wr.heap.size wr _).2.2.2.mono HW.out.size))) HX.out.2.2.2.1 (Kd.C_below HF3.out.1 (by assumption : _ ∧ _ ∧ _ ∧ Below wr.heap.size wr _).2.2.2) HF3.out.2.1 (by omega) HMX.out HF3.out.2.2.2 HX.out.2.2.2.2.2.2.2.1.rt.r.2.2 HF3.out.2.2.1).mono ?_; rintro e w30 ⟨p, rfl, hb30⟩; have JS4 := Aside0.mk (JST.out (by assumption) hb30); clear hb30))
          all_goals
            have HW2 := Aside0.mk (HW.out.trans (JS4.out.2.2.2.mono HW.out.size))
            go_wp2_with fail
            go_roundw
            case measure => simp [intOf]; omega
            case rel => exact ⟨q + 1, by omega, by go_num, HW2⟩
        · have hqe : q = L.length := by omega
          subst hqe
          go_wp2_with fail
          go_roundw
          case measure => simp [intOf]; omega
          case rel => exact ⟨j + 1, by omega, by go_num, HW⟩
    · have hje : j = U.length := by omega
      subst hje
      go_wp2
      go_ret
      exact ⟨rfl, HZ.out.1.trans (HW.out.mono HZ.out.1.size)⟩
end Go.Proofs.YtgpbhmcmbigbdaaDoor.G

namespace Go.Proofs.YtgpbhmcmbigbdaaDoor.passSettles
open Go.ChangeShapes Go.WideShapes Go.ChangeAt Go.RowKit Go.Proofs.YtgpbhmcmbigbdaaDoorW.PrintWords Go.Proofs.YtgpbhmcmbigbdaaDoorW.PrintLast Go.Proofs.YtgpbhmcmbigbdaaDoorW.PrintMore Go.Proofs.YtgpbhmcmbigbdaaDoor.PRefs
set_option linter.unusedVariables false
theorem own : ownKnob Tryd.prog.godebug = none := by kernel_rfl
theorem laidOut : laidOutB Tryd.prog = true := by kernel_rfl
set_option maxRecDepth 100000 in
theorem lifted (os : Os) (started : os.Started) (H : Type) (enc : TypeId × Value → H) :
    ReturnsInHanded {} Tryd.checked os 3 .any (fun w args => (Rows.passSettlesSpec.pre enc Tryd.prog Tryd.f3 [] false w args ∧ laidMetH Tryd.prog G.laidList w) ∧ sizedMet enc Tryd.prog Tryd.f3 (OpenSpec.ofChange Rows.passSettlesSpec) false w args)
      (Rows.passSettlesSpec.post enc Tryd.prog Tryd.f3 false true false false) := by
  refine returnsInHanded_of_change_and (C := Tryd.checked) (X := fun w _ => laidMetH Tryd.prog G.laidList w) (fun _ _ _ hh h => h.of_heap hh) own started (by kernel_rfl) Tryd.func3
    (ChangeSpec.witness_shaped (enc := enc) (C := Tryd.checked) (os := os) (X := fun w _ => laidMetH Tryd.prog G.laidList w) false (World.doorLaid Tryd.prog 400 os) #[.slice none 0 0] 8 rfl (World.shaped_of_RefB (by kernel_rfl) (by kernel_rfl)) (by kernel_rfl) (by kernel_rfl) (by kernel_rfl) (G.door_met os _)) ?_
  intro W base args ds gs before hval0 hW _ _ hL _
  have htab := G.tab_of hL
  have hval : ∀ (j : Nat) t v, Tryd.f3.params[j]? = some t → args[j]? = some v → Value.okWide Tryd.prog W .any base t v := hval0
  have hW' := hW
  obtain ⟨p, q, hA0, hV, rfl, hfz, hnd⟩ := hW
  have hA : DataW.TrodAll enc Tryd.prog W 0 (fun _ => true) true Tryd.f3.params.toList args.toList ds p := hA0
  rw [Tryd.params3] at hA hval
  obtain ⟨v0, vs0, d0, ds0, p0, q0, hargs, rfl, rfl, h0, r0⟩ := trodAll_cons hA
  obtain ⟨rfl, rfl, rfl⟩ := trodAll_nil r0
  obtain rfl : args = #[v0] := by cases args; simp_all
  obtain ⟨rfl, rfl⟩ := trodVars_none hV
  obtain ⟨a0, len0, cap0, rfl⟩ := okWide_slice Tryd.underlying22 (hval 0 22 v0 rfl rfl)
  have k0 := h0
  have lt0 : ∀ x ∈ p0, x.block < W.heap.size := by obtain ⟨m, hm⟩ := k0; exact DataW.trod_lt m _ _ _ hm
  obtain ⟨z0, e0, l0, c0⟩ : ∃ xs : List S43, xs.length = len0 ∧ len0 ≤ cap0 ∧ Kd.C k43 W a0 xs.length xs := by obtain ⟨m, hm⟩ := h0; exact G.in_parts hm
  clear hA0 hval0
  subst e0
  refine (G.passsettles_walk a0 cap0 z0 W c0 l0 htab).mono fun e W' ⟨he, bel⟩ => ?_
  subst he
  exact ⟨_, rfl, _, _, _, [], _, [], hW', trodAll_mk1 (shut_bool Tryd.underlying4 _), (trodAll_cons_mk (Below.trod laidOut (by kernel_rfl) (of_decide_eq_true (by kernel_rfl)) k0 bel lt0) trodAll_mk0), rfl, bel.frame _, fun h => by cases h⟩
theorem over : Rows.passSettlesRow.holds Tryd.pinned (OpenSpec.ofChange Rows.passSettlesSpec) :=
  OpenClaim.holds_of_wide 3 Tryd.f3 rfl rfl rfl rfl rfl rfl rfl ⟨rfl, rfl, rfl, rfl, rfl⟩ rfl rfl rfl rfl rfl (by kernel_rfl) Tryd.func3 (by kernel_rfl)
    (of_decide_eq_true (by kernel_rfl)) (by unfold Func.isWrapper; first | (rw [if_pos (by decide +kernel)]; kernel_rfl) | (rw [if_neg (by decide +kernel)]; exact ⟨rfl, rfl⟩))
    (fun os started H enc _ => lifted os started H enc)
theorem proved : Rows.PassSettlesCardSaid :=
  Claim7.holds_tied_plain_at .later [] [.data, .data, .data] true Rows.passSettlesCard.stood.harness false
    over (fun _ h => by cases h) (by kernel_rfl) (fun _ h => by cases h) passSettles_row_tie rfl ⟨rfl, rfl⟩ (by kernel_rfl) rfl
    (fun f fn hf hfn => by
      obtain rfl : f = 3 := Option.some.inj ((show Tryd.prog.funcNamed "arborist/arboristlaw16.PassSettles" = some 3 by kernel_rfl).symm.trans hf) |>.symm
      obtain rfl : fn = Tryd.f3 := (Option.some.inj (Tryd.func3.symm.trans hfn)).symm
      exact ⟨by kernel_rfl, fun j t ht => by
        rw [Tryd.params3] at ht
        have hm : t ∈ [22] := by simpa using Array.mem_of_getElem? ht
        have hall : ([22].all fun u => !Tryd.prog.wantsStandIn u) = true := by kernel_rfl
        exact (show Tryd.prog.wantsStandIn t = false by simpa using List.all_eq_true.1 hall t hm)⟩)
    (by kernel_rfl)
#print axioms proved
end Go.Proofs.YtgpbhmcmbigbdaaDoor.passSettles
