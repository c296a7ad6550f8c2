/- Proved: for every input the law arboristlaw02.RelMakes returns true and its arguments read as they did. No condition. -/
import Derived.Test.YtlinhcgggfdlpaaRows
import Derived.Test.YtlinhcgggfdlpaaBox
import Derived.Test.YtlinhcgggfdlpaaDocs
import Derived.Test.YtlinhcgggfdlpaaDocsP
import Derived.Test.YtlinhcgggfdlpaaDocs3
import Derived.Deep.Matrix
import Derived.ChangeSame
import Derived.ProofKit
import Derived.OpenShut
import Derived.WalkKit
import Derived.ShutString
import Derived.ChangeOld
import Derived.Below
set_option linter.unusedVariables false
set_option linter.unusedSimpArgs false
namespace Go.Proofs.Ytlinhcgggfdlpaa.G
open Go.RowKit Go.Proofs.YtlinhcgggfdlpaaW.PrintWords Go.Proofs.YtlinhcgggfdlpaaW.PrintLast Go.Proofs.YtlinhcgggfdlpaaW.PrintMore Go.Proofs.Ytlinhcgggfdlpaa.PRefs
attribute [local go_sem] min2_mn min_two

theorem relm_rd {W : World} {B : Option Addr} {d : Nat} {sc : List Int} {B' : Option Addr} {d' : Nat} {M : List (List Int)} {base : Nat} (hm : RelM W base (.agg #[.slice B sc.length d, .slice B' M.length d']) (sc, M)) : RelRd W B d sc B' d' M := by
  obtain ⟨A, c, A', c', e, h⟩ := hm.rd
  have h2 := congrArg Value.cells e
  simp [Value.cells] at h2
  obtain ⟨⟨rfl, rfl⟩, rfl, rfl⟩ := h2
  exact h
/-- A box takes a relation. -/
theorem box_takes {W : World} {g : Nat} {x y : Value} {sc : List Int} {B : Option Addr} {d : Nat} {B' : Option Addr} {d' : Nat} {M : List (List Int)} {base : Nat} (h : W.heap[g]? = some (.cells #[x, y] 25 (0, 0))) (hm : RelM W base (.agg #[.slice B sc.length d, .slice B' M.length d']) (sc, M)) (hb : g < base) :
    RelBx ((W.setCell ⟨g, 0, none⟩ (.slice B sc.length d)).setCell ⟨g, 1, none⟩ (.slice B' M.length d')) g B d sc B' d' M :=
  ⟨blk2_s1 (blk2_s0 h _) _, relm_rd ((hm.far (p := ⟨g, 0, none⟩) hb (.slice B sc.length d)).far (p := ⟨g, 1, none⟩) hb (.slice B' M.length d'))⟩
theorem lawcut_to {w : World} {A : Option Addr} {c : Nat} {sc : List Int} {A' : Option Addr} {c' : Nat} {L : List (List Int)} (h : RelRd w A c sc A' c' L) {SC : List Int} {LC : List (List Int)} (h1 : ten sc = SC) (h2 : tens L = LC) :
    Calls Try.prog 13 #[.agg #[.slice A sc.length c, .slice A' L.length c']] w fun e w' => ∃ A c A' c', e = .returned (.agg #[.slice A SC.length c, .slice A' LC.length c']) ∧ RelM w' w.heap.size (.agg #[.slice A SC.length c, .slice A' LC.length c']) (SC, LC) ∧ Below w.heap.size w w' := by
  subst h1 h2
  exact lawcut_own h
theorem lawcut_is {w : World} {A : Option Addr} {c : Nat} {sc : List Int} {A' : Option Addr} {c' : Nat} {L : List (List Int)} (h : RelRd w A c sc A' c' L) {SC : List Int} {LC : List (List Int)} (h1 : ten sc = SC) (h2 : tens L = LC) :
    Calls Try.prog 13 #[.agg #[.slice A sc.length c, .slice A' L.length c']] w fun e w' => RelTo w w' e SC LC := by
  refine (lawcut_to h h1 h2).mono ?_
  rintro e w' ⟨A, c, A', c', rfl, hm, hb⟩
  exact ⟨A, c, A', c', rfl, relm_rd hm, hb⟩

set_option maxHeartbeats 8000000 in
set_option maxRecDepth 100000 in
theorem relmakes_walk (Ai : Option Addr) (ci : Nat) (sc : List Int) (Di : Option Addr) (di : Nat) (rows : List (List Int)) (w : World) (hR : RelRd w Ai ci sc Di di rows) :
    Calls Try.prog 3 #[.agg #[.slice Ai sc.length ci, .slice Di rows.length di]] w fun e w' => e = .returned (.bool true) ∧ Below w.heap.size w w' := by
  have HB1 := Aside0.mk (below_alloc (Below.refl w.heap.size w) (.cells #[.slice Ai sc.length ci, .slice Di rows.length di] 25))
  have Hi1 := Aside0.mk (RelBx.new hR)
  have qi0_1 := blk2_c0 Hi1.out.blk
  have qi1_1 := blk2_c1 Hi1.out.blk
  have hz := sz_tens sc rows
  have hL40 := tens_len rows
  obtain ⟨SC, hSC⟩ : ∃ SC, ten sc = SC := ⟨_, rfl⟩
  obtain ⟨L, hL⟩ : ∃ L, tens rows = L := ⟨_, rfl⟩
  have hSC2 : ten SC = SC := by rw [← hSC]; exact ten_ten sc
  have hL2 : tens L = L := by rw [← hL]; exact tens_tens rows
  rw [hSC, hL] at hz
  rw [hL] at hL40
  have HE := Aside0.mk (And.intro hSC (And.intro hL (And.intro hSC2 hL2)))
  have hL1000 : L.length ≤ 1000 := by omega
  have hzs := hz.s
  obtain ⟨b1, hb1⟩ : ∃ b, decide (RightP SC L) = b := ⟨_, rfl⟩
  have HRT := Aside0.mk (RightR_f SC L 5000000 (by omega) (by omega) (fun x hx => by have := hz.x x hx; omega) (Nat.le_refl _))
  rw [hb1] at HRT
  have HB1' := Aside0.mk hb1
  have hbb : (b1 != b1) = false := by cases b1 <;> rfl
  have hz1 := sz_make hz
  have hf1 := rel_field1
  clear hSC hL hSC2 hL2 hb1 hR
  cases hok : okMake SC L
  · obtain ⟨⟨S1, L1⟩, e1⟩ : ∃ r, makeRel SC L = r := ⟨_, rfl⟩
    rw [e1] at hz1
    simp only at hz1
    have hpair : makeRel SC L = ([], []) := by unfold makeRel; rw [hok]; rfl
    have hE1 : S1 = [] := by have := congrArg Prod.fst (e1.symm.trans hpair); exact this
    have hE2 : L1 = [] := by have := congrArg Prod.snd (e1.symm.trans hpair); exact this
    have hq1 : ((S1.length : Int) == 0) = true := by rw [hE1]; rfl
    have hq2 : ((L1.length : Int) == 0) = true := by rw [hE2]; rfl
    have HMK := Aside0.mk (And.intro e1 (And.intro (show makeErr SC L = 1 by unfold makeErr; rw [hok]; rfl) hok))
    clear hpair hE1 hE2
    clear e1 hok
    go_enter Try.func3, Try.ntmps3
    go_wp2_with (first
        | (have hgd := HB8; clear hgd; go_at_call 18; refine (refsame_is Hr8.out.rd hz Hs8.out.rd hz true (by simp)).mono ?_; rintro e w9 ⟨rfl, hb9⟩; have HB9 := Aside0.mk (below_then HB8.out HB8.out.size hb9); have Ha9 := Aside0.mk (Ha8.out.step hb9); have Hb9 := Aside0.mk (Hb8.out.step hb9); have qa0_9 := blk2_c0 Ha9.out.blk; have qa1_9 := blk2_c1 Ha9.out.blk; have qb0_9 := blk2_c0 Hb9.out.blk; have qb1_9 := blk2_c1 Hb9.out.blk; clear hb9 Hr8 Hs8 Ha8 Hb8 qr0_8 qr1_8 qs0_8 qs1_8 qa0_8 qa1_8 qb0_8 qb1_8)
        | (have hgd := HB7; clear hgd; go_at_call 17; refine (rightp_is Hr7.out.rd hz b1 HB1'.out).mono ?_; rintro e w8 ⟨rfl, hb8⟩; have HB8 := Aside0.mk (below_then HB7.out HB7.out.size hb8); have Hr8 := Aside0.mk (Hr7.out.step hb8); have Hs8 := Aside0.mk (Hs7.out.step hb8); have Ha8 := Aside0.mk (Ha7.out.step hb8); have Hb8 := Aside0.mk (Hb7.out.step hb8); have qr0_8 := blk2_c0 Hr8.out.blk; have qr1_8 := blk2_c1 Hr8.out.blk; have qs0_8 := blk2_c0 Hs8.out.blk; have qs1_8 := blk2_c1 Hs8.out.blk; have qa0_8 := blk2_c0 Ha8.out.blk; have qa1_8 := blk2_c1 Ha8.out.blk; have qb0_8 := blk2_c0 Hb8.out.blk; have qb1_8 := blk2_c1 Hb8.out.blk; clear hb8 Hr7 Hs7 Ha7 Hb7 qr0_7 qr1_7 qs0_7 qs1_7 qa0_7 qa1_7 qb0_7 qb1_7)
        | (have hgd := HB6; clear hgd; go_at_call 16; refine (refright_is Hr6.out.rd HRT.out).mono ?_; rintro e w7 ⟨rfl, hb7⟩; have HB7 := Aside0.mk (below_then HB6.out HB6.out.size hb7); have Hr7 := Aside0.mk (Hr6.out.step hb7); have Hs7 := Aside0.mk (Hs6.out.step hb7); have Ha7 := Aside0.mk (Ha6.out.step hb7); have Hb7 := Aside0.mk (Hb6.out.step hb7); have qr0_7 := blk2_c0 Hr7.out.blk; have qr1_7 := blk2_c1 Hr7.out.blk; have qs0_7 := blk2_c0 Hs7.out.blk; have qs1_7 := blk2_c1 Hs7.out.blk; have qa0_7 := blk2_c0 Ha7.out.blk; have qa1_7 := blk2_c1 Ha7.out.blk; have qb0_7 := blk2_c0 Hb7.out.blk; have qb1_7 := blk2_c1 Hb7.out.blk; clear hb7 Hr6 Hs6 Ha6 Hb6 qr0_6 qr1_6 qs0_6 qs1_6 qa0_6 qa1_6 qb0_6 qb1_6)
        | (have hgd := HB5; clear hgd; go_at_call 15; refine (refmake_is Hr5.out.rd hz hL1000 HMK.out.1 HMK.out.2.2).mono ?_; rintro e w6 ⟨Ab, cb, Db, db, rfl, hr6, hb6⟩; have hx6 := below_box hb6 (.cells #[.slice Ab S1.length cb, .slice Db L1.length db] 25); have HB6 := Aside0.mk (below_then HB5.out HB5.out.size hx6); have Hr6 := Aside0.mk (Hr5.out.step hx6); have Hs6 := Aside0.mk (Hs5.out.step hx6); have Ha6 := Aside0.mk (Ha5.out.step hx6); have Hb6 := Aside0.mk (RelBx.new hr6); have qr0_6 := blk2_c0 Hr6.out.blk; have qr1_6 := blk2_c1 Hr6.out.blk; have qs0_6 := blk2_c0 Hs6.out.blk; have qs1_6 := blk2_c1 Hs6.out.blk; have qa0_6 := blk2_c0 Ha6.out.blk; have qa1_6 := blk2_c1 Ha6.out.blk; have qb0_6 := blk2_c0 Hb6.out.blk; have qb1_6 := blk2_c1 Hb6.out.blk; clear hb6 hr6 hx6 Hr5 Hs5 Ha5 qr0_5 qr1_5 qs0_5 qs1_5 qa0_5 qa1_5)
        | (have hgd := HB4; clear hgd; go_at_call 14; refine (make_is Hr4.out.rd hz HMK.out.1 HMK.out.2.1).mono ?_; rintro e w5 ⟨Aa, ca, Da, da, rfl, hr5, hb5⟩; have hx5 := below_box hb5 (.cells #[.slice Aa S1.length ca, .slice Da L1.length da] 25); have HB5 := Aside0.mk (below_then HB4.out HB4.out.size hx5); have Hr5 := Aside0.mk (Hr4.out.step hx5); have Hs5 := Aside0.mk (Hs4.out.step hx5); have Ha5 := Aside0.mk (RelBx.new hr5); have qr0_5 := blk2_c0 Hr5.out.blk; have qr1_5 := blk2_c1 Hr5.out.blk; have qs0_5 := blk2_c0 Hs5.out.blk; have qs1_5 := blk2_c1 Hs5.out.blk; have qa0_5 := blk2_c0 Ha5.out.blk; have qa1_5 := blk2_c1 Ha5.out.blk; clear hb5 hr5 hx5 Hr4 Hs4 qr0_4 qr1_4 qs0_4 qs1_4)
        | (have hgd := HB3; clear hgd; go_at_call 13; refine (lawcut_is Hr3.out.rd HE.out.2.2.1 HE.out.2.2.2).mono ?_; rintro e w4 ⟨As, cs, Ds, ds, rfl, hr4, hb4⟩; have hx4 := below_box hb4 (.cells #[.slice As SC.length cs, .slice Ds L.length ds] 25); have HB4 := Aside0.mk (below_then HB3.out HB3.out.size hx4); have Hr4 := Aside0.mk (Hr3.out.step hx4); have Hs4 := Aside0.mk (RelBx.new hr4); have qr0_4 := blk2_c0 Hr4.out.blk; have qr1_4 := blk2_c1 Hr4.out.blk; have qs0_4 := blk2_c0 Hs4.out.blk; have qs1_4 := blk2_c1 Hs4.out.blk; clear hb4 hr4 hx4 Hr3 qr0_3 qr1_3 p0 p1 p2 p3)
        | (have hgd := HB2; clear hgd; go_at_call 13; refine (lawcut_to Hi2.out.rd HE.out.1 HE.out.2.1).mono ?_; rintro e w3 ⟨Ar, cr, Dr, dr, rfl, hm, hb3⟩; have hlt : w.heap.size < w2.heap.size := (Array.getElem?_eq_some_iff.1 Hi2.out.blk).1; have hbk := (hb3.block _ hlt).trans Hi2.out.blk; have p0 := blk2_c0 hbk; have p1 := blk_fr (i := 0) hbk; have hs0 := blk2_s0 hbk (.slice Ar SC.length cr); have p2 := blk2_c1 hs0; have p3 := blk_fr (i := 1) hs0; have Hr3 := Aside0.mk (box_takes hbk hm hlt); have HB3 := Aside0.mk (((below_then HB2.out HB2.out.size hb3).setCell (p := ⟨w.heap.size, 0, none⟩) (Nat.le_refl _) (.slice Ar SC.length cr)).setCell (p := ⟨w.heap.size, 1, none⟩) (Nat.le_refl _) (.slice Dr L.length dr)); have qr0_3 := blk2_c0 Hr3.out.blk; have qr1_3 := blk2_c1 Hr3.out.blk; clear hm hb3 hlt hbk hs0 Hi2 qi0_2 qi1_2)
        | (have hgd := HB1; clear hgd; go_at_call 12; refine (shown_any _).mono ?_; rintro e w2 ⟨rfl, hb2⟩; have HB2 := Aside0.mk (below_then HB1.out HB1.out.size hb2); have Hi2 := Aside0.mk (Hi1.out.step hb2); have qi0_2 := blk2_c0 Hi2.out.blk; have qi1_2 := blk2_c1 Hi2.out.blk; clear hb2 Hi1 qi0_1 qi1_1))
    all_goals
      go_ret
      exact ⟨rfl, HB9.out⟩
  · obtain ⟨⟨S1, L1⟩, e1⟩ : ∃ r, makeRel SC L = r := ⟨_, rfl⟩
    rw [e1] at hz1
    simp only at hz1
    have hp1 := right_make hok
    rw [e1] at hp1
    simp only at hp1
    have HMK := Aside0.mk (And.intro e1 (And.intro (show makeErr SC L = 0 by unfold makeErr; rw [if_pos hok]) hok))
    clear e1 hok
    go_enter Try.func3, Try.ntmps3
    go_wp2_with (first
        | (have hgd := HB10; clear hgd; go_at_call 17; refine (rightp_is Ha10.out.rd hz1 true (decide_eq_true hp1)).mono ?_; rintro e w11 ⟨rfl, hb11⟩; have HB11 := Aside0.mk (below_then HB10.out HB10.out.size hb11); clear hb11 Ha10 qa0_10 qa1_10)
        | (have hgd := HB9; clear hgd; go_at_call 18; refine (refsame_is Ha9.out.rd hz1 Hb9.out.rd hz1 true (by simp)).mono ?_; rintro e w10 ⟨rfl, hb10⟩; have HB10 := Aside0.mk (below_then HB9.out HB9.out.size hb10); have Ha10 := Aside0.mk (Ha9.out.step hb10); have qa0_10 := blk2_c0 Ha10.out.blk; have qa1_10 := blk2_c1 Ha10.out.blk; clear hb10 Hb9 Ha9 qa0_9 qa1_9 qb0_9 qb1_9)
        | (have hgd := HB8; clear hgd; go_at_call 18; refine (refsame_is Hr8.out.rd hz Hs8.out.rd hz true (by simp)).mono ?_; rintro e w9 ⟨rfl, hb9⟩; have HB9 := Aside0.mk (below_then HB8.out HB8.out.size hb9); have Ha9 := Aside0.mk (Ha8.out.step hb9); have Hb9 := Aside0.mk (Hb8.out.step hb9); have qa0_9 := blk2_c0 Ha9.out.blk; have qa1_9 := blk2_c1 Ha9.out.blk; have qb0_9 := blk2_c0 Hb9.out.blk; have qb1_9 := blk2_c1 Hb9.out.blk; clear hb9 Hr8 Hs8 Ha8 Hb8 qr0_8 qr1_8 qs0_8 qs1_8 qa0_8 qa1_8 qb0_8 qb1_8)
        | (have hgd := HB7; clear hgd; go_at_call 17; refine (rightp_is Hr7.out.rd hz b1 HB1'.out).mono ?_; rintro e w8 ⟨rfl, hb8⟩; have HB8 := Aside0.mk (below_then HB7.out HB7.out.size hb8); have Hr8 := Aside0.mk (Hr7.out.step hb8); have Hs8 := Aside0.mk (Hs7.out.step hb8); have Ha8 := Aside0.mk (Ha7.out.step hb8); have Hb8 := Aside0.mk (Hb7.out.step hb8); have qr0_8 := blk2_c0 Hr8.out.blk; have qr1_8 := blk2_c1 Hr8.out.blk; have qs0_8 := blk2_c0 Hs8.out.blk; have qs1_8 := blk2_c1 Hs8.out.blk; have qa0_8 := blk2_c0 Ha8.out.blk; have qa1_8 := blk2_c1 Ha8.out.blk; have qb0_8 := blk2_c0 Hb8.out.blk; have qb1_8 := blk2_c1 Hb8.out.blk; clear hb8 Hr7 Hs7 Ha7 Hb7 qr0_7 qr1_7 qs0_7 qs1_7 qa0_7 qa1_7 qb0_7 qb1_7)
        | (have hgd := HB6; clear hgd; go_at_call 16; refine (refright_is Hr6.out.rd HRT.out).mono ?_; rintro e w7 ⟨rfl, hb7⟩; have HB7 := Aside0.mk (below_then HB6.out HB6.out.size hb7); have Hr7 := Aside0.mk (Hr6.out.step hb7); have Hs7 := Aside0.mk (Hs6.out.step hb7); have Ha7 := Aside0.mk (Ha6.out.step hb7); have Hb7 := Aside0.mk (Hb6.out.step hb7); have qr0_7 := blk2_c0 Hr7.out.blk; have qr1_7 := blk2_c1 Hr7.out.blk; have qs0_7 := blk2_c0 Hs7.out.blk; have qs1_7 := blk2_c1 Hs7.out.blk; have qa0_7 := blk2_c0 Ha7.out.blk; have qa1_7 := blk2_c1 Ha7.out.blk; have qb0_7 := blk2_c0 Hb7.out.blk; have qb1_7 := blk2_c1 Hb7.out.blk; clear hb7 Hr6 Hs6 Ha6 Hb6 qr0_6 qr1_6 qs0_6 qs1_6 qa0_6 qa1_6 qb0_6 qb1_6)
        | (have hgd := HB5; clear hgd; go_at_call 15; refine (refmake_is Hr5.out.rd hz hL1000 HMK.out.1 HMK.out.2.2).mono ?_; rintro e w6 ⟨Ab, cb, Db, db, rfl, hr6, hb6⟩; have hx6 := below_box hb6 (.cells #[.slice Ab S1.length cb, .slice Db L1.length db] 25); have HB6 := Aside0.mk (below_then HB5.out HB5.out.size hx6); have Hr6 := Aside0.mk (Hr5.out.step hx6); have Hs6 := Aside0.mk (Hs5.out.step hx6); have Ha6 := Aside0.mk (Ha5.out.step hx6); have Hb6 := Aside0.mk (RelBx.new hr6); have qr0_6 := blk2_c0 Hr6.out.blk; have qr1_6 := blk2_c1 Hr6.out.blk; have qs0_6 := blk2_c0 Hs6.out.blk; have qs1_6 := blk2_c1 Hs6.out.blk; have qa0_6 := blk2_c0 Ha6.out.blk; have qa1_6 := blk2_c1 Ha6.out.blk; have qb0_6 := blk2_c0 Hb6.out.blk; have qb1_6 := blk2_c1 Hb6.out.blk; clear hb6 hr6 hx6 Hr5 Hs5 Ha5 qr0_5 qr1_5 qs0_5 qs1_5 qa0_5 qa1_5)
        | (have hgd := HB4; clear hgd; go_at_call 14; refine (make_is Hr4.out.rd hz HMK.out.1 HMK.out.2.1).mono ?_; rintro e w5 ⟨Aa, ca, Da, da, rfl, hr5, hb5⟩; have hx5 := below_box hb5 (.cells #[.slice Aa S1.length ca, .slice Da L1.length da] 25); have HB5 := Aside0.mk (below_then HB4.out HB4.out.size hx5); have Hr5 := Aside0.mk (Hr4.out.step hx5); have Hs5 := Aside0.mk (Hs4.out.step hx5); have Ha5 := Aside0.mk (RelBx.new hr5); have qr0_5 := blk2_c0 Hr5.out.blk; have qr1_5 := blk2_c1 Hr5.out.blk; have qs0_5 := blk2_c0 Hs5.out.blk; have qs1_5 := blk2_c1 Hs5.out.blk; have qa0_5 := blk2_c0 Ha5.out.blk; have qa1_5 := blk2_c1 Ha5.out.blk; clear hb5 hr5 hx5 Hr4 Hs4 qr0_4 qr1_4 qs0_4 qs1_4)
        | (have hgd := HB3; clear hgd; go_at_call 13; refine (lawcut_is Hr3.out.rd HE.out.2.2.1 HE.out.2.2.2).mono ?_; rintro e w4 ⟨As, cs, Ds, ds, rfl, hr4, hb4⟩; have hx4 := below_box hb4 (.cells #[.slice As SC.length cs, .slice Ds L.length ds] 25); have HB4 := Aside0.mk (below_then HB3.out HB3.out.size hx4); have Hr4 := Aside0.mk (Hr3.out.step hx4); have Hs4 := Aside0.mk (RelBx.new hr4); have qr0_4 := blk2_c0 Hr4.out.blk; have qr1_4 := blk2_c1 Hr4.out.blk; have qs0_4 := blk2_c0 Hs4.out.blk; have qs1_4 := blk2_c1 Hs4.out.blk; clear hb4 hr4 hx4 Hr3 qr0_3 qr1_3 p0 p1 p2 p3)
        | (have hgd := HB2; clear hgd; go_at_call 13; refine (lawcut_to Hi2.out.rd HE.out.1 HE.out.2.1).mono ?_; rintro e w3 ⟨Ar, cr, Dr, dr, rfl, hm, hb3⟩; have hlt : w.heap.size < w2.heap.size := (Array.getElem?_eq_some_iff.1 Hi2.out.blk).1; have hbk := (hb3.block _ hlt).trans Hi2.out.blk; have p0 := blk2_c0 hbk; have p1 := blk_fr (i := 0) hbk; have hs0 := blk2_s0 hbk (.slice Ar SC.length cr); have p2 := blk2_c1 hs0; have p3 := blk_fr (i := 1) hs0; have Hr3 := Aside0.mk (box_takes hbk hm hlt); have HB3 := Aside0.mk (((below_then HB2.out HB2.out.size hb3).setCell (p := ⟨w.heap.size, 0, none⟩) (Nat.le_refl _) (.slice Ar SC.length cr)).setCell (p := ⟨w.heap.size, 1, none⟩) (Nat.le_refl _) (.slice Dr L.length dr)); have qr0_3 := blk2_c0 Hr3.out.blk; have qr1_3 := blk2_c1 Hr3.out.blk; clear hm hb3 hlt hbk hs0 Hi2 qi0_2 qi1_2)
        | (have hgd := HB1; clear hgd; go_at_call 12; refine (shown_any _).mono ?_; rintro e w2 ⟨rfl, hb2⟩; have HB2 := Aside0.mk (below_then HB1.out HB1.out.size hb2); have Hi2 := Aside0.mk (Hi1.out.step hb2); have qi0_2 := blk2_c0 Hi2.out.blk; have qi1_2 := blk2_c1 Hi2.out.blk; clear hb2 Hi1 qi0_1 qi1_1))
    all_goals
      go_ret
      exact ⟨rfl, HB11.out⟩
/-- A relation that came in. -/
theorem slice_of {H : Type} {enc : TypeId × Value → H} {W : World} {base : Nat} {held : Bool} {v : Value} {x : DataW H × List MemPlace} {fuel : Nat} {t e : Nat} (ht : Try.prog.underlying t = some (.slice e))
    (h : DataW.trod enc Try.prog W base (fun _ => true) held fuel t [v] = some x) : ∃ a len cap, v = .slice a len cap := by
  rcases Go.Deep.open_slice ht h with h1 | h1
  · simp at h1; exact ⟨_, _, _, h1.1⟩
  · obtain ⟨a, len, cap, h2⟩ : ∃ a len cap, [v] = [Value.slice a len cap] := by
      obtain ⟨ad, l, c, _, _, _, _, h3, _⟩ := h1
      exact ⟨_, _, _, h3⟩
    simp at h2
    exact ⟨a, len, cap, h2⟩
set_option maxRecDepth 100000 in
theorem in_rel {H : Type} {enc : TypeId × Value → H} {W : World} {base : Nat} {held : Bool} {cs : Array Value} {x : DataW H × List MemPlace} {fuel : Nat}
    (h : DataW.trod enc Try.prog W base (fun _ => true) held fuel 25 (Value.agg cs).cells.toList = some x) :
    ∃ A c sc A' c' L, cs = #[.slice A sc.length c, .slice A' L.length c'] ∧ RelRd W A c sc A' c' L := by
  have e : (Value.agg cs).cells.toList = cs.toList := by simp [Value.cells]
  rw [e] at h
  obtain ⟨y0, y1, n, _, hl, h0, h1⟩ := Go.ChangeShapes.trod_struct2 Try.underlying25 h
  have c1 : Try.prog.cellsOf 25 = 2 := by kernel_rfl
  have c2 : Try.prog.cellsOf 22 = 1 := by kernel_rfl
  have c3 : Try.prog.cellsOf 23 = 1 := by kernel_rfl
  rw [c1] at hl
  obtain ⟨l⟩ := cs
  match l, hl with
  | [a, b], _ =>
    replace h0 : DataW.trod enc Try.prog W base (fun _ => true) held n 22 [a] = some y0 := by
      have h2 : DataW.trod enc Try.prog W base (fun _ => true) held n 22 (([a, b].drop 0).take (Try.prog.cellsOf 22)) = some y0 := h0
      rwa [c2] at h2
    replace h1 : DataW.trod enc Try.prog W base (fun _ => true) held n 23 [b] = some y1 := by
      have h2 : DataW.trod enc Try.prog W base (fun _ => true) held n 23 (([a, b].drop 1).take (Try.prog.cellsOf 23)) = some y1 := h1
      rwa [c3] at h2
    obtain ⟨a0, l0, c0, rfl⟩ := slice_of Try.underlying22 h0
    obtain ⟨a1, l1, c1, rfl⟩ := slice_of Try.underlying23 h1
    obtain ⟨xs, hx, hcx, hC⟩ := in_ints (a := a0) (len := l0) (cap := c0) h0
    obtain ⟨L, hL, hcL, hD⟩ := in_rows (a := a1) (len := l1) (cap := c1) h1
    subst hx hL
    exact ⟨a0, c0, xs, a1, c1, L, rfl, ⟨hC, hcx, hD, hcL⟩⟩

end Go.Proofs.Ytlinhcgggfdlpaa.G

namespace Go.Proofs.Ytlinhcgggfdlpaa.relMakes
open Go.ChangeShapes Go.WideShapes Go.ChangeAt Go.RowKit Go.Proofs.YtlinhcgggfdlpaaW.PrintWords Go.Proofs.YtlinhcgggfdlpaaW.PrintLast Go.Proofs.YtlinhcgggfdlpaaW.PrintMore
set_option linter.unusedVariables false
theorem own : ownKnob Try.prog.godebug = none := by kernel_rfl
theorem laidOut : laidOutB Try.prog = true := by kernel_rfl
set_option maxRecDepth 100000 in
theorem lifted (os : Os) (started : os.Started) (H : Type) (enc : TypeId × Value → H) :
    ReturnsInHanded {} Try.checked os 3 .any (Rows.relMakesSpec.pre6 enc Try.prog Try.f3 Rows.relMakesRow.domain false) (Rows.relMakesSpec.post enc Try.prog Try.f3 false true false false) := by
  refine returnsInHanded_of_change (C := Try.checked) own started (by kernel_rfl) Try.func3
    (ChangeSpec.witness6 (enc := enc) (C := Try.checked) false ⟨#[], #[.agg #[.slice none 0 0, .slice none 0 0]], []⟩ 8 (by kernel_rfl) (by kernel_rfl) (by kernel_rfl) (by kernel_rfl)) ?_
  intro W base args ds gs before hval0 hW hcnd _
  have hval : ∀ (j : Nat) t v, Try.f3.params[j]? = some t → args[j]? = some v → Value.okWide Try.prog W .any base t v := hval0
  have hW' := hW
  obtain ⟨p, q, hA0, hV, rfl, hfz, hnd⟩ := hW
  have hA : DataW.TrodAll enc Try.prog W 0 (fun _ => true) true Try.f3.params.toList args.toList ds p := hA0
  rw [Try.params3] at hA hval
  obtain ⟨v0, vs0, d0, ds0, p0, q0, hargs, rfl, rfl, h0, r0⟩ := trodAll_cons hA
  obtain ⟨rfl, rfl, rfl⟩ := trodAll_nil r0
  obtain rfl : args = #[v0] := by cases args; simp_all
  obtain ⟨rfl, rfl⟩ := trodVars_none hV
  obtain ⟨cs0, rfl, hcs0⟩ := okWide_struct Try.underlying25 (hval 0 25 v0 rfl rfl)
  have k0 := h0
  have lt0 : ∀ x ∈ p0, x.block < W.heap.size := by obtain ⟨m, hm⟩ := k0; exact DataW.trod_lt m _ _ _ hm
  obtain ⟨a0, cap0, z0, ar0, capr0, zr0, rfl, c0⟩ : ∃ A c sc A' c' L, cs0 = #[.slice A sc.length c, .slice A' L.length c'] ∧ G.RelRd W A c sc A' c' L := by obtain ⟨m, hm⟩ := h0; exact G.in_rel hm
  clear hA0 hval0
  refine (G.relmakes_walk a0 cap0 z0 ar0 capr0 zr0 W c0).mono fun e W' ⟨he, bel⟩ => ?_
  subst he
  exact ⟨_, rfl, _, _, _, [], _, [], hW', trodAll_mk1 (shut_bool Try.underlying4 _), (trodAll_cons_mk (Below.trod laidOut (by kernel_rfl) (of_decide_eq_true (by kernel_rfl)) k0 bel lt0) trodAll_mk0), rfl, bel.frame _, fun h => by cases h⟩
theorem over : Rows.relMakesRow.holds Try.pinned (OpenSpec.ofChange Rows.relMakesSpec) :=
  OpenClaim.holds_of_wide 3 Try.f3 rfl rfl rfl rfl rfl rfl rfl ⟨rfl, rfl, rfl, rfl, rfl⟩ rfl rfl rfl rfl rfl (by kernel_rfl) Try.func3 (by kernel_rfl)
    (of_decide_eq_true (by kernel_rfl)) (by unfold Func.isWrapper; first | (rw [if_pos (by decide +kernel)]; kernel_rfl) | (rw [if_neg (by decide +kernel)]; exact ⟨rfl, rfl⟩))
    (fun os started H enc _ => lifted os started H enc)
theorem proved : Rows.RelMakesSaid := over
#print axioms proved
end Go.Proofs.Ytlinhcgggfdlpaa.relMakes
