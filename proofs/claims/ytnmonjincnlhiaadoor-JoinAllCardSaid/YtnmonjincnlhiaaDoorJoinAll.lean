/- Proved: for every input the law arboristlaw03.JoinAll returns true and its arguments read as they did; what the program's tables hold at the start is tied to the program's text. No condition. -/
import Derived.Test.YtnmonjincnlhiaaDoorRows
import Derived.Test.YtnmonjincnlhiaaDoorCards
import Derived.Test.YtnmonjincnlhiaaDoorTie
import Derived.Test.YtnmonjincnlhiaaDoorInParts
import Derived.Deep.Matrix
import Derived.ProofKit
import Derived.OpenShut
import Derived.WalkKit
import Derived.ShutString
import Derived.ChangeOld
import Derived.Below
import Derived.SevenTiedAt
import Derived.Stop.Joined
import Derived.Deep.DeepCutAuto
set_option linter.unusedVariables false
set_option linter.unusedSimpArgs false
namespace Go.Proofs.YtnmonjincnlhiaaDoor.G
open Go.RowKit Go.Proofs.YtnmonjincnlhiaaDoorW.PrintWords Go.Proofs.YtnmonjincnlhiaaDoorW.PrintLast Go.Proofs.YtnmonjincnlhiaaDoorW.PrintMore Go.Proofs.YtnmonjincnlhiaaDoor.PRefs
attribute [local go_sem] min2_mn min_two

set_option maxHeartbeats 4000000 in
set_option maxRecDepth 100000 in
theorem joinall_walk (A0 : Option Addr) (c0 : Nat) (l : List S25) (most : Int) (w : World) (hr0 : Kd.C k25 w A0 l.length l) (hc0 : l.length ≤ c0) (htab : Tab w) :
    Calls Tryd.prog 7 #[.slice A0 l.length c0, .int .i64 most] w fun e w' => e = .returned (.bool true) ∧ Below w.heap.size w w' := by
  have HT := Aside0.mk htab
  clear htab
  have HF := Aside0.mk (parts_f l)
  have hps := partsOf_sm l
  have hpl := partsOf_len l
  have HA0 := Aside0.mk hr0
  generalize partsOf l = P at *
  obtain ⟨m, hm⟩ : ∃ m, mn most 4000 = m := ⟨_, rfl⟩
  have hm4 : m ≤ 4000 := by rw [← hm]; unfold mn; first | (split <;> omega) | omega
  have hD := AllR_f P m hm4 hps (by omega)
  have hR := fun r => allRel_rt m hm4 P ([], [[]]) r hps rt_unit (by simp; omega) (by simp)
  have HPS := Aside0.mk hps
  have hB0 := Below.refl w.heap.size w
  have HB1 := Aside0.mk hB0
  have Hl1 := HA0
  have hlc := Aside0.mk hc0
  clear hr0 hc0 HA0 hps hB0
  cases hq : allRel m P ([], [[]]) with
  | none =>
    rw [allDoc, hq] at hD
    have HE := Aside0.mk (And.intro (show allTo m P = ([], []) from by rw [allTo, hq]; rfl) (And.intro (show allErr m P = 9 from by rw [allErr, hq]; rfl) hD))
    clear hD hR hq
    go_enter Tryd.func7, Tryd.ntmps7
    go_wp2_with (first
      | (have hgd := HB4; clear hgd; go_at_call 21; refine (docall_is Hp4.out hcapp HE.out.2.2).mono ?_; rintro e w5 ⟨Ad, cd, Dd, dd, rfl, hr5, hb5⟩; have hx5 := below_box hb5 (.cells #[.slice Ad 0 cd, .slice Dd 0 dd] 27); have HB5 := Aside0.mk (below_then HB4.out HB4.out.size hx5); have Hr5 := Aside0.mk (Hr4.out.step hx5); have Hd5 := Aside0.mk (RelBx.new hr5); have qr0_5 : _ = some (Value.slice Ar 0 cr) := blk2_c0 Hr5.out.blk; have qr1_5 : _ = some (Value.slice Dr 0 dr) := blk2_c1 Hr5.out.blk; have qd0_5 : _ = some (Value.slice Ad 0 cd) := blk2_c0 Hd5.out.blk; have qd1_5 : _ = some (Value.slice Dd 0 dd) := blk2_c1 Hd5.out.blk; clear hb5 hr5 hx5 Hp4 Hr4 qr0_4 qr1_4)
      | (have hgd := HB3; clear hgd; go_at_call 20; refine (all_n Hp3.out hpl HPS.out hm4 (HT.out.step HB3.out) HE.out.1 HE.out.2.1).mono ?_; rintro e w4 ⟨Ar, cr, Dr, dr, rfl, hr4, hb4⟩; have hx4 := below_box hb4 (.cells #[.slice Ar 0 cr, .slice Dr 0 dr] 27); have HB4 := Aside0.mk (below_then HB3.out HB3.out.size hx4); have Hp4 := Aside0.mk (Kd.C_below Hp3.out hx4); have Hr4 := Aside0.mk (RelBx.new hr4); have qr0_4 : _ = some (Value.slice Ar 0 cr) := blk2_c0 Hr4.out.blk; have qr1_4 : _ = some (Value.slice Dr 0 dr) := blk2_c1 Hr4.out.blk; clear hb4 hr4 hx4 Hp3)
      | (have hgd := HB2; clear hgd; go_at_call 19; refine (parts_is Hl2.out hlc.out HF.out).mono ?_; rintro e w3 ⟨Ap, cp, rfl, hr3, hb3⟩; have HB3 := Aside0.mk (below_then HB2.out HB2.out.size hb3); have Hp3 := Aside0.mk hr3.2; have hcapp := hr3.1; clear hb3 hr3 Hl2)
      | (have hgd := HB1; clear hgd; go_at_call 11; refine (shown3_any _ HT.out).mono ?_; rintro e w2 ⟨rfl, hb2⟩; have HB2 := Aside0.mk (below_then HB1.out HB1.out.size hb2); have Hl2 := Aside0.mk (Kd.C_below Hl1.out hb2); clear hb2 Hl1))
    go_ret
    exact ⟨rfl, HB5.out⟩
  | some r =>
    obtain ⟨U, J⟩ := r
    rw [allDoc, hq] at hD
    obtain ⟨hrt, hU, hJ⟩ := hR _ hq
    have HE := Aside0.mk (And.intro (show allTo m P = (U, J) from by rw [allTo, hq]; rfl) (And.intro (show allErr m P = 0 from by rw [allErr, hq]; rfl) hD))
    have HX := Aside0.mk hrt.r.2.1
    have hU' : U.length ≤ 300 := hU
    have hJ' : J.length ≤ 4000 := hJ
    clear hD hR hq hrt hU hJ
    go_enter Tryd.func7, Tryd.ntmps7
    go_wp2_with (first
      | (have hgd := HB5; clear hgd; go_at_call 22; refine (docsame_is Hr5.out.rd Hd5.out.rd (by omega) (by omega) HX.out).mono ?_; rintro e w6 ⟨rfl, hb6⟩; have HB6 := Aside0.mk (below_then HB5.out HB5.out.size hb6); have Hr6 := Aside0.mk (Hr5.out.step hb6); have Hd6 := Aside0.mk (Hd5.out.step hb6); have qr0_6 := blk2_c0 Hr6.out.blk; have qr1_6 := blk2_c1 Hr6.out.blk; have qd0_6 := blk2_c0 Hd6.out.blk; have qd1_6 := blk2_c1 Hd6.out.blk; clear hb6 Hr5 Hd5 qr0_5 qr1_5 qd0_5 qd1_5)
      | (have hgd := HB4; clear hgd; go_at_call 21; refine (docall_is Hp4.out hcapp HE.out.2.2).mono ?_; rintro e w5 ⟨Ad, cd, Dd, dd, rfl, hr5, hb5⟩; have hx5 := below_box hb5 (.cells #[.slice Ad U.length cd, .slice Dd J.length dd] 27); have HB5 := Aside0.mk (below_then HB4.out HB4.out.size hx5); have Hr5 := Aside0.mk (Hr4.out.step hx5); have Hd5 := Aside0.mk (RelBx.new hr5); have qr0_5 := blk2_c0 Hr5.out.blk; have qr1_5 := blk2_c1 Hr5.out.blk; have qd0_5 := blk2_c0 Hd5.out.blk; have qd1_5 := blk2_c1 Hd5.out.blk; clear hb5 hr5 hx5 Hp4 Hr4 qr0_4 qr1_4)
      | (have hgd := HB3; clear hgd; go_at_call 20; refine (all_n Hp3.out hpl HPS.out hm4 (HT.out.step HB3.out) HE.out.1 HE.out.2.1).mono ?_; rintro e w4 ⟨Ar, cr, Dr, dr, rfl, hr4, hb4⟩; have hx4 := below_box hb4 (.cells #[.slice Ar U.length cr, .slice Dr J.length dr] 27); have HB4 := Aside0.mk (below_then HB3.out HB3.out.size hx4); have Hp4 := Aside0.mk (Kd.C_below Hp3.out hx4); have Hr4 := Aside0.mk (RelBx.new hr4); have qr0_4 := blk2_c0 Hr4.out.blk; have qr1_4 := blk2_c1 Hr4.out.blk; clear hb4 hr4 hx4 Hp3)
      | (have hgd := HB2; clear hgd; go_at_call 19; refine (parts_is Hl2.out hlc.out HF.out).mono ?_; rintro e w3 ⟨Ap, cp, rfl, hr3, hb3⟩; have HB3 := Aside0.mk (below_then HB2.out HB2.out.size hb3); have Hp3 := Aside0.mk hr3.2; have hcapp := hr3.1; clear hb3 hr3 Hl2)
      | (have hgd := HB1; clear hgd; go_at_call 11; refine (shown3_any _ HT.out).mono ?_; rintro e w2 ⟨rfl, hb2⟩; have HB2 := Aside0.mk (below_then HB1.out HB1.out.size hb2); have Hl2 := Aside0.mk (Kd.C_below Hl1.out hb2); clear hb2 Hl1))
    go_ret
    exact ⟨rfl, HB6.out⟩
end Go.Proofs.YtnmonjincnlhiaaDoor.G

namespace Go.Proofs.YtnmonjincnlhiaaDoor.joinAll
open Go.ChangeShapes Go.WideShapes Go.ChangeAt Go.RowKit Go.Proofs.YtnmonjincnlhiaaDoorW.PrintWords Go.Proofs.YtnmonjincnlhiaaDoorW.PrintLast Go.Proofs.YtnmonjincnlhiaaDoorW.PrintMore Go.Proofs.YtnmonjincnlhiaaDoor.PRefs
set_option linter.unusedVariables false
theorem own : ownKnob Tryd.prog.godebug = none := by kernel_rfl
theorem laidOut : laidOutB Tryd.prog = true := by kernel_rfl
set_option maxRecDepth 100000 in
theorem lifted (os : Os) (started : os.Started) (H : Type) (enc : TypeId × Value → H) :
    ReturnsInHanded {} Tryd.checked os 7 .any (fun w args => (Rows.joinAllSpec.pre enc Tryd.prog Tryd.f7 [] false w args ∧ laidMetH Tryd.prog G.laidList w) ∧ sizedMet enc Tryd.prog Tryd.f7 (OpenSpec.ofChange Rows.joinAllSpec) false w args)
      (Rows.joinAllSpec.post enc Tryd.prog Tryd.f7 false true false false) := by
  refine returnsInHanded_of_change_and (C := Tryd.checked) (X := fun w _ => laidMetH Tryd.prog G.laidList w) (fun _ _ _ hh h => h.of_heap hh) own started (by kernel_rfl) Tryd.func7
    (ChangeSpec.witness_shaped (enc := enc) (C := Tryd.checked) (os := os) (X := fun w _ => laidMetH Tryd.prog G.laidList w) false (World.doorLaid Tryd.prog 400 os) #[.slice none 0 0, .int .i64 0] 8 rfl (World.shaped_of_RefB (by kernel_rfl) (by kernel_rfl)) (by kernel_rfl) (by kernel_rfl) (by kernel_rfl) (G.door_met os _)) ?_
  intro W base args ds gs before hval0 hW _ _ hL _
  have htab := G.tab_of hL
  have hval : ∀ (j : Nat) t v, Tryd.f7.params[j]? = some t → args[j]? = some v → Value.okWide Tryd.prog W .any base t v := hval0
  have hW' := hW
  obtain ⟨p, q, hA0, hV, rfl, hfz, hnd⟩ := hW
  have hA : DataW.TrodAll enc Tryd.prog W 0 (fun _ => true) true Tryd.f7.params.toList args.toList ds p := hA0
  rw [Tryd.params7] at hA hval
  obtain ⟨v0, vs0, d0, ds0, p0, q0, hargs, rfl, rfl, h0, r0⟩ := trodAll_cons hA
  obtain ⟨v1, vs1, d1, ds1, p1, q1, rfl, rfl, rfl, h1, r1⟩ := trodAll_cons r0
  obtain ⟨rfl, rfl, rfl⟩ := trodAll_nil r1
  obtain rfl : args = #[v0, v1] := by cases args; simp_all
  obtain ⟨rfl, rfl⟩ := trodVars_none hV
  obtain ⟨a0, len0, cap0, rfl⟩ := okWide_slice Tryd.underlying38 (hval 0 38 v0 rfl rfl)
  have k0 := h0
  have lt0 : ∀ x ∈ p0, x.block < W.heap.size := by obtain ⟨m, hm⟩ := k0; exact DataW.trod_lt m _ _ _ hm
  obtain ⟨z0, e0, l0, c0⟩ : ∃ xs : List S25, xs.length = len0 ∧ len0 ≤ cap0 ∧ Kd.C k25 W a0 xs.length xs := by obtain ⟨m, hm⟩ := h0; exact G.in_parts hm
  obtain ⟨a1, rfl, rfl, rfl, w1⟩ := open_int Tryd.underlying3 (hval 1 3 v1 rfl rfl) h1
  clear hA0 hval0
  subst e0
  refine (G.joinall_walk a0 cap0 z0 a1 W c0 l0 htab).mono fun e W' ⟨he, bel⟩ => ?_
  subst he
  exact ⟨_, rfl, _, _, _, [], _, [], hW', trodAll_mk1 (shut_bool Tryd.underlying4 _), (trodAll_cons_mk (Below.trod laidOut (by kernel_rfl) (of_decide_eq_true (by kernel_rfl)) k0 bel lt0) (trodAll_cons_mk (shut_int Tryd.underlying3 w1) trodAll_mk0)), rfl, bel.frame _, fun h => by cases h⟩
theorem over : Rows.joinAllRow.holds Tryd.pinned (OpenSpec.ofChange Rows.joinAllSpec) :=
  OpenClaim.holds_of_wide 7 Tryd.f7 rfl rfl rfl rfl rfl rfl rfl ⟨rfl, rfl, rfl, rfl, rfl⟩ rfl rfl rfl rfl rfl (by kernel_rfl) Tryd.func7 (by kernel_rfl)
    (of_decide_eq_true (by kernel_rfl)) (by unfold Func.isWrapper; first | (rw [if_pos (by decide +kernel)]; kernel_rfl) | (rw [if_neg (by decide +kernel)]; exact ⟨rfl, rfl⟩))
    (fun os started H enc _ => lifted os started H enc)
theorem proved : Rows.JoinAllCardSaid :=
  Claim7.holds_tied_plain_at .later [] [.data, .data, .data] true Rows.joinAllCard.stood.harness false
    over (fun _ h => by cases h) (by kernel_rfl) (fun _ h => by cases h) joinAll_row_tie rfl ⟨rfl, rfl⟩ (by kernel_rfl) rfl
    (fun f fn hf hfn => by
      obtain rfl : f = 7 := Option.some.inj ((show Tryd.prog.funcNamed "arborist/arboristlaw03.JoinAll" = some 7 by kernel_rfl).symm.trans hf) |>.symm
      obtain rfl : fn = Tryd.f7 := (Option.some.inj (Tryd.func7.symm.trans hfn)).symm
      exact ⟨by kernel_rfl, fun j t ht => by
        rw [Tryd.params7] at ht
        have hm : t ∈ [38, 3] := by simpa using Array.mem_of_getElem? ht
        have hall : ([38, 3].all fun u => !Tryd.prog.wantsStandIn u) = true := by kernel_rfl
        exact (show Tryd.prog.wantsStandIn t = false by simpa using List.all_eq_true.1 hall t hm)⟩)
    (by kernel_rfl)
#print axioms proved
end Go.Proofs.YtnmonjincnlhiaaDoor.joinAll
