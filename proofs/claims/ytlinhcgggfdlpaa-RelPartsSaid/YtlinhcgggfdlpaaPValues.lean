/- Cut out of what the print tool printed: one function. -/
import Derived.Test.YtlinhcgggfdlpaaPRefsx0
import Derived.Test.YtlinhcgggfdlpaaPRefsx1
import Derived.Test.YtlinhcgggfdlpaaPRefsx2
import Derived.Test.YtlinhcgggfdlpaaPRefsx6
namespace Go.Proofs.Ytlinhcgggfdlpaa.PRefs
open Go.RowKit Go.Proofs.YtlinhcgggfdlpaaW.PrintWords Go.Proofs.YtlinhcgggfdlpaaW.PrintLast Go.Proofs.YtlinhcgggfdlpaaW.PrintMore
attribute [local go_sem] max2_int min2_int max_two min_two max_three min_three max_four min_four   -- for this text's walks alone
set_option linter.unusedVariables false
set_option linter.unusedSimpArgs false

/-! ### arboristref02_Values: function 31 -/
def arboristref02_Values.l0 : Nat → Int → List Int → Int → List Int → List (List Int) → Option (List Int)
  | 0, _, _, _, _, _ => none
  | k + 1, x5, x6, x7, x331000, x331001 => if x7 < (x331001.length : Int) then (if x5 ≥ 0 then (if 0 ≤ x7 then (if 0 ≤ x5 then (if x5 < ((rd_L1 x331001 x7).length : Int) then ((arboristref01_Unite.f k x6 (([rd (rd_L1 x331001 x7) x5] : List Int))).bind fun t340 => (arboristref02_Values.l0 k x5 t340 (wrap64 (x7 + 1)) x331000 x331001)) else (none)) else (none)) else (none)) else (some x6)) else (some x6)
def arboristref02_Values.f (k : Nat) (l0_0 : List Int) (l0_1 : List (List Int)) (a1 : Int) : Option (List Int) := (arboristref02_Place.f k l0_0 a1).bind fun t331 => (arboristref02_Values.l0 k t331 (([] : List Int)) 0 l0_0 l0_1)
theorem arboristref02_Values.mono_l : ∀ k, (∀ y0 y1 y2 y3 y4, LeO (arboristref02_Values.l0 k y0 y1 y2 y3 y4) (arboristref02_Values.l0 (k + 1) y0 y1 y2 y3 y4))
  | 0 => fun _ _ _ _ _ r h => by simp [arboristref02_Values.l0] at h
  | k + 1 => by
    have ih0 := arboristref02_Values.mono_l k
    · intro y0 y1 y2 y3 y4
      unfold arboristref02_Values.l0
      repeat' first
      | (with_reducible exact ih0 _ _ _ _ _)
      | (with_reducible exact arboristref01_Unite.mono _ _ _)
      | (with_reducible exact arboristref02_Place.mono _ _ _)
      | (with_reducible exact LeO.refl _)
      | (with_reducible exact LeO.none _)
      | (with_reducible refine LeO.ite ?_ ?_)
      | (with_reducible refine LeO.bind ?_ (fun _ => ?_))
      | exact ih0 _ _ _ _ _
      | exact arboristref01_Unite.mono _ _ _
      | exact arboristref02_Place.mono _ _ _
      | exact LeO.none _
      | refine LeO.ite ?_ ?_
      | refine LeO.bind ?_ (fun _ => ?_)
theorem arboristref02_Values.mono : ∀ a0 a1 a2 k, LeO (arboristref02_Values.f k a0 a1 a2) (arboristref02_Values.f (k + 1) a0 a1 a2) := by
  intro a0 a1 a2 k
  have ih0 := arboristref02_Values.mono_l k
  unfold arboristref02_Values.f
  repeat' first
      | (with_reducible exact ih0 _ _ _ _ _)
      | (with_reducible exact arboristref01_Unite.mono _ _ _)
      | (with_reducible exact arboristref02_Place.mono _ _ _)
      | (with_reducible exact LeO.refl _)
      | (with_reducible exact LeO.none _)
      | (with_reducible refine LeO.ite ?_ ?_)
      | (with_reducible refine LeO.bind ?_ (fun _ => ?_))
      | exact ih0 _ _ _ _ _
      | exact arboristref01_Unite.mono _ _ _
      | exact arboristref02_Place.mono _ _ _
      | exact LeO.none _
      | refine LeO.ite ?_ ?_
      | refine LeO.bind ?_ (fun _ => ?_)
set_option maxHeartbeats 8000000 in
set_option maxRecDepth 100000 in
theorem arboristref02_Values.calls (k : Nat) (A0_0 : Option Addr) (c0_0 : Nat) (l0_0 : List Int) (A0_1 : Option Addr) (c0_1 : Nat) (l0_1 : List (List Int)) (a1 : Int) (r : List Int) (w : World) (hr0_0 : Kd.C (Kd.int .i64) w A0_0 l0_0.length l0_0) (hc0_0 : l0_0.length ≤ c0_0) (hr0_1 : Kd.C (Kd.slice 3 (Kd.int .i64)) w A0_1 l0_1.length l0_1) (hc0_1 : l0_1.length ≤ c0_1) (h : arboristref02_Values.f k l0_0 l0_1 a1 = some r) :
    Calls Try.prog 31 #[.agg #[.slice A0_0 l0_0.length c0_0, .slice A0_1 l0_1.length c0_1], .int .i64 a1] w fun e w' => ∃ v0_ : Value, e = .returned (v0_) ∧ Kd.R (Kd.int .i64) 3 w' w.heap.size (fun _ => True) v0_ r ∧ Below w.heap.size w w' := by
  have hu25 := Try.underlying25
  have HR0_0 := Aside0.mk hr0_0
  have HC0_0 := Aside0.mk hc0_0
  clear hr0_0 hc0_0
  have HR0_1 := Aside0.mk hr0_1
  have HC0_1 := Aside0.mk hc0_1
  clear hr0_1 hc0_1
  have HB := Aside0.mk (Below.refl w.heap.size w)
  have H : ((arboristref02_Place.f k l0_0 a1).bind fun t331 => (arboristref02_Values.l0 k t331 (([] : List Int)) 0 l0_0 l0_1)) = some r := h
  clear h
  replace H := Option.bind_eq_some_iff.mp H
  obtain ⟨t331, A30, H⟩ := H
  replace H : (arboristref02_Values.l0 k t331 (([] : List Int)) 0 l0_0 l0_1) = some r := H
  have A3 := Aside0.mk A30
  clear A30
  obtain ⟨y332, hy332⟩ : ∃ y_ : List Int, y_ = (([] : List Int)) := ⟨_, rfl⟩
  replace H : (arboristref02_Values.l0 k t331 y332 0 l0_0 l0_1) = some r := by first | (rw [hy332]; with_reducible exact H) | (have H2_ := (Option.bind_some _ _).symm.trans H; rw [hy332]; with_reducible exact H2_) | (have H2_ := (Option.bind_some _ _).symm.trans H; with_reducible exact H2_) | with_reducible exact H | (rw [hy332]; exact H) | exact H
  have Ny332 := Aside0.mk hy332
  clear hy332
  have H' := Aside0.mk H
  clear H
  go_enter Try.func31, Try.ntmps31
  go_wp2_with (first | ((with_reducible refine gate_dst (N := 2) rfl ?_); refine box_event ?hg (N := 2) ?hd (cs := #[.slice A0_0 l0_0.length c0_0, .slice A0_1 l0_1.length c0_1]) (t := 25) ?hr ?_; (case hd => rfl); (case hg => rfl); (case hr => first | (go_simp; done) | (go_simp; rfl)); intro gb330 hg w4 hbox hb; have n0_ := Aside0.mk (below_step (by repeat (first | (with_reducible first | exact HB.out | apply below_alloc | apply pw_below_drewN | apply below_drew1) | exact HB.out)) hb); have n1_ := Aside0.mk (hbox); have n2_ := Aside0.mk ((by rw [hg]; exact (below_size (by repeat (first | (with_reducible first | exact HB.out | apply below_alloc | apply pw_below_drewN | apply below_drew1) | exact HB.out))) : w.heap.size ≤ gb330)); have n3_ := Aside0.mk ((by rw [hg]; exact (below_size (by repeat (first | (with_reducible first | exact HB.out | apply below_alloc | apply pw_below_drewN | apply below_drew1) | exact HB.out))) : w.heap.size ≤ gb330)); clear HB; have HB := n0_; have BK330 := n1_; have GW330 := n2_; have GE330 := n3_; clear n0_ n1_ n2_ n3_; clear hb hbox hg; have hcz5_0 : w4.cell? ⟨gb330, 0, none⟩ = some (.slice A0_0 l0_0.length c0_0) := (blk_cell BK330.out 0).trans rfl; have hcz5_1 : w4.cell? ⟨gb330, 1, none⟩ = some (.slice A0_1 l0_1.length c0_1) := (blk_cell BK330.out 1).trans rfl; have hfz5_0 := blk_frozen BK330.out 0; have hfz5_1 := blk_frozen BK330.out 1) | ((with_reducible refine gate_callee (f := 57) rfl ?_); refine goesL_ (some 11) rfl rfl Try.func57 (by kernel_rfl) rfl #[.slice A0_0 l0_0.length c0_0, .int .i64 a1] rfl (by (try simp only [List.map_toArray, List.map_cons, List.map_nil]); first | done | rfl | (simp only [List.length_drop, List.length_take]; rfl)) ?_; (with_reducible refine (arboristref02_Place.calls k _ _ l0_0 a1 t331 _ ?side1 ?side2 A3.out).mono ?_); (case side1 => repeat (first | exact (Kd.C_below HR0_0.out HB.out) | (with_reducible refine Kd.C_alloc ?_ _) | (with_reducible refine Kd.C_drewN ?_ _) | (with_reducible refine Kd.C_drew ?_))); (case side2 => exact HC0_0.out); rintro e w' ⟨rfl, ⟨nd, rfl⟩⟩; refine ⟨_, rfl, ?_⟩) | ((with_reducible refine gate_dst (N := 12) rfl ?_); refine Kd.R_lit (Kd.int .i64) _ 3 ?hg (N := 12) ?hd (xs := ([] : List Int)) (inner := []) (ok := fun _ => True) (okp := fun _ => True) ?hr ?hp (fun _ hk => hk) trivial (Below.refl _ _) (Nat.le_refl _) (by simp) ?_; (case hd => rfl); (case hg => rfl); (case hr => first | (go_simp; done) | (go_simp; rfl)); (case hp => exact (Reps.none _ _)); intro v333 w6 ho7 hb hg_ hnew_; clear hg_ hnew_; (first | rw [← Ny332.out] at ho7 | (simp only [Int.reduceToNat] at ho7; rw [← Ny332.out] at ho7)); have n0_ := Aside0.mk (Kd.R_lower ho7 (below_size (by repeat (first | (with_reducible first | exact HB.out | apply below_alloc | apply pw_below_drewN | apply below_drew1 | refine below_set ?_ GE330.out) | exact HB.out)))); have n1_ := Aside0.mk (blk_below (g := gb330) (o := .cells #[.slice A0_0 l0_0.length c0_0, .slice A0_1 l0_1.length c0_1] 25 (0, 0)) (by (with_reducible repeat (first | refine blk_drewN ?_ _ | refine blk_drew ?_ | refine blk_alloc ?_ _)); exact BK330.out) hb); have n2_ := Aside0.mk (below_step (by repeat (first | (with_reducible first | exact HB.out | apply below_alloc | apply pw_below_drewN | apply below_drew1 | refine below_set ?_ GE330.out) | exact HB.out)) hb); clear BK330; clear HB; have HO334 := n0_; have BK330 := n1_; have HB := n2_; clear n0_ n1_ n2_; clear hb ho7))
  go_loopg [6, 7] k (fun kq v6 v7 w' => ∃ (x6_1 : List Int) (x7_1 : Int), v7 = .int .i64 x7_1 ∧ Aside0 (arboristref02_Values.l0 kq t331 x6_1 x7_1 l0_0 l0_1 = some r) ∧ Aside0 (kq ≤ k) ∧ Aside0 (Kd.R (Kd.int .i64) 3 w' w.heap.size (fun _ => True) v6 x6_1) ∧ Aside0 (w'.heap[gb330]? = some (.cells #[(.slice A0_0 l0_0.length c0_0), (.slice A0_1 l0_1.length c0_1)] 25 (0, 0))) ∧ Aside0 (Below w.heap.size w w'))
  case atStart => exact ⟨(y332), (0), (by first | rfl | (simp; done) | (simp [*]; done)), H', ⟨Nat.le_refl _⟩, ⟨by (with_reducible repeat (first | apply Kd.R_alloc | apply Kd.R_drewN | apply Kd.R_drew)); exact HO334.out⟩, ⟨by (with_reducible repeat (first | refine blk_drewN ?_ _ | refine blk_drew ?_ | refine blk_alloc ?_ _)); exact BK330.out⟩, ⟨by repeat (first | (with_reducible first | exact HB.out | apply below_alloc | apply pw_below_drewN | apply below_drew1 | refine below_set ?_ GE330.out) | exact HB.out)⟩⟩
  case round =>
    clear H'
    try clear p2
    try clear c3
    try clear c5
    try clear hcz5_0
    try clear hcz5_1
    try clear hfz5_0
    try clear hfz5_1
    obtain ⟨x6_1, x7_1, rfl, HA, HK1, HO_6, BK330, HB⟩ := hrel
    cases gk with
    | zero => exact absurd HA.out (by simp [arboristref02_Values.l0])
    | succ k1 =>
      have H := HA.out
      clear HA
      simp only [arboristref02_Values.l0] at H
      by_cases c8 : x7_1 < (l0_1.length : Int)
      · rw [if_pos c8] at H
        have c8b0 : decide (x7_1 < (l0_1.length : Int)) = true := decide_eq_true c8
        clear c8
        by_cases c9 : t331 ≥ 0
        · rw [if_pos c9] at H
          have c9b0 : decide (0 ≤ t331) = true := decide_eq_true c9
          clear c9
          by_cases c10 : 0 ≤ x7_1
          · rw [if_pos c10] at H
            have c10b0 : decide (0 ≤ x7_1) = true := decide_eq_true c10
            clear c10
            by_cases c11 : 0 ≤ t331
            · rw [if_pos c11] at H
              have c11b0 : decide (0 ≤ t331) = true := decide_eq_true c11
              clear c11
              by_cases c12 : t331 < ((rd_L1 l0_1 x7_1).length : Int)
              · rw [if_pos c12] at H
                have c12b0 : decide (t331 < ((rd_L1 l0_1 x7_1).length : Int)) = true := decide_eq_true c12
                clear c12
                obtain ⟨y337, hy337⟩ : ∃ y_ : List Int, y_ = (([rd (rd_L1 l0_1 x7_1) t331] : List Int)) := ⟨_, rfl⟩
                replace H : ((arboristref01_Unite.f k1 x6_1 y337).bind fun t340 => (arboristref02_Values.l0 k1 t331 t340 (wrap64 (x7_1 + 1)) l0_0 l0_1)) = some r := by first | (rw [hy337]; with_reducible exact H) | (have H2_ := (Option.bind_some _ _).symm.trans H; rw [hy337]; with_reducible exact H2_) | (have H2_ := (Option.bind_some _ _).symm.trans H; with_reducible exact H2_) | with_reducible exact H | (rw [hy337]; exact H) | exact H
                have Ny337 := Aside0.mk hy337
                clear hy337
                replace H := Option.bind_eq_some_iff.mp H
                obtain ⟨t340, A130, H⟩ := H
                replace H : (arboristref02_Values.l0 k1 t331 t340 (wrap64 (x7_1 + 1)) l0_0 l0_1) = some r := H
                have A13 := Aside0.mk A130
                clear A130
                have H' := Aside0.mk H
                clear H
                have hcz14_0 : wr.cell? ⟨gb330, 0, none⟩ = some (.slice A0_0 l0_0.length c0_0) := (blk_cell BK330.out 0).trans rfl
                have hcz14_1 : wr.cell? ⟨gb330, 1, none⟩ = some (.slice A0_1 l0_1.length c0_1) := (blk_cell BK330.out 1).trans rfl
                have hfz14_0 := blk_frozen BK330.out 0
                have hfz14_1 := blk_frozen BK330.out 1
                have p335 : 0 ≤ (x7_1 : Int) := of_decide_eq_true (by first | (with_reducible assumption) | assumption)
                have q335 : x7_1 < (l0_1.length : Int) := of_decide_eq_true (by first | (with_reducible assumption) | assumption)
                obtain ⟨ad335, A335_0, c335_0, e335, hx335_0, hl335_0, hi335_0⟩ := at_L1 HR0_1.out x7_1 p335 q335
                cases e335
                replace hx335_0 := (HB.out.cell (World.block_lt_of_cell? w _ hx335_0)).trans hx335_0
                have HR335_0 := Aside0.mk hi335_0
                have HC335_0 := Aside0.mk hl335_0
                clear hi335_0 hl335_0
                replace p335 := eq_true p335
                replace q335 := eq_true q335
                have p336 : 0 ≤ (t331 : Int) := of_decide_eq_true (by first | (with_reducible assumption) | assumption)
                have q336 : t331 < ((rd_L1 l0_1 x7_1).length : Int) := of_decide_eq_true (by first | (with_reducible assumption) | assumption)
                obtain ⟨ad336, e336, hx336_0⟩ := Kd.at_int HR335_0.out t331 p336 q336
                cases e336
                replace hx336_0 := (HB.out.cell (World.block_lt_of_cell? w _ hx336_0)).trans hx336_0
                replace p336 := eq_true p336
                replace q336 := eq_true q336
                go_wp2_with (first | ((with_reducible refine gate_dst (N := 33) rfl ?_); refine Kd.R_lit (Kd.int .i64) _ 3 ?hg (N := 33) ?hd (xs := ([rd (rd_L1 l0_1 x7_1) t331] : List Int)) (inner := [.int .i64 (rd (rd_L1 l0_1 x7_1) t331)]) (ok := fun _ => True) (okp := fun _ => True) ?hr ?hp (fun _ hk => hk) trivial (Below.refl _ _) (Nat.le_refl _) (by simp) ?_; (case hd => rfl); (case hg => rfl); (case hr => first | (go_simp; done) | (go_simp; rfl)); (case hp => exact (Reps.one (show Kd.M (Kd.int .i64) _ _ _ (rd (rd_L1 l0_1 x7_1) t331) [.int .i64 (rd (rd_L1 l0_1 x7_1) t331)] from rfl) (Reps.none _ _))); intro v338 w15 ho16 hb hg_ hnew_; clear hg_ hnew_; (first | rw [← Ny337.out] at ho16 | (simp only [Int.reduceToNat] at ho16; rw [← Ny337.out] at ho16)); have n0_ := Aside0.mk (Kd.R_elder' (by (with_reducible repeat (first | apply Kd.R_alloc | apply Kd.R_drewN | apply Kd.R_drew)); exact HO_6.out) (Kd.R_base ho16) hb); have n1_ := Aside0.mk (Kd.R_lower (Kd.R_new' ho16 (Kd.R_lt (by (with_reducible repeat (first | apply Kd.R_alloc | apply Kd.R_drewN | apply Kd.R_drew)); exact HO_6.out))) (below_size (by repeat (first | (with_reducible first | exact HB.out | apply below_alloc | apply pw_below_drewN | apply below_drew1 | refine below_set ?_ GE330.out) | exact HB.out)))); have n2_ := Aside0.mk (blk_below (g := gb330) (o := .cells #[.slice A0_0 l0_0.length c0_0, .slice (some ad335) l0_1.length c0_1] 25 (0, 0)) (by (with_reducible repeat (first | refine blk_drewN ?_ _ | refine blk_drew ?_ | refine blk_alloc ?_ _)); exact BK330.out) hb); have n3_ := Aside0.mk (below_step (by repeat (first | (with_reducible first | exact HB.out | apply below_alloc | apply pw_below_drewN | apply below_drew1 | refine below_set ?_ GE330.out) | exact HB.out)) hb); clear HO_6; clear BK330; clear HB; have HO_6 := n0_; have HO339 := n1_; have BK330 := n2_; have HB := n3_; clear n0_ n1_ n2_ n3_; clear hb ho16; obtain ⟨Ao17, co17, eo17⟩ := Kd.R_slice HO_6.out; subst eo17; obtain ⟨Ao18, co18, eo18⟩ := Kd.R_slice HO339.out; subst eo18) | ((with_reducible refine gate_callee (f := 44) rfl ?_); refine goesL_ (some 34) rfl rfl Try.func44 (by kernel_rfl) rfl #[.slice Ao17 x6_1.length co17, .slice Ao18 y337.length co18] rfl (by (try simp only [List.map_toArray, List.map_cons, List.map_nil]); first | done | rfl | (simp only [List.length_drop, List.length_take]; rfl)) ?_; (with_reducible refine (arboristref01_Unite.calls k1 _ _ x6_1 _ _ y337 t340 _ ?side1 ?side2 ?side3 ?side4 A13.out).mono ?_); (case side1 => repeat (first | exact (Kd.R_reads' HO_6.out).2.2 | (with_reducible refine Kd.C_alloc ?_ _) | (with_reducible refine Kd.C_drewN ?_ _) | (with_reducible refine Kd.C_drew ?_))); (case side2 => exact (Kd.R_reads' HO_6.out).2.1); (case side3 => repeat (first | exact (Kd.R_reads' HO339.out).2.2 | (with_reducible refine Kd.C_alloc ?_ _) | (with_reducible refine Kd.C_drewN ?_ _) | (with_reducible refine Kd.C_drew ?_))); (case side4 => exact (Kd.R_reads' HO339.out).2.1); rintro e w19 ⟨v341, rfl, ho0, hb⟩; refine ⟨_, rfl, ?_⟩; have n0_ := Aside0.mk (Kd.R_elder' (by (with_reducible repeat (first | apply Kd.R_alloc | apply Kd.R_drewN | apply Kd.R_drew)); exact HO_6.out) (Kd.R_base ho0) hb); have n1_ := Aside0.mk (Kd.R_elder' (by (with_reducible repeat (first | apply Kd.R_alloc | apply Kd.R_drewN | apply Kd.R_drew)); exact HO339.out) (Kd.R_base ho0) hb); have n2_ := Aside0.mk (Kd.R_lower (Kd.R_new' (Kd.R_new' ho0 (Kd.R_lt (by (with_reducible repeat (first | apply Kd.R_alloc | apply Kd.R_drewN | apply Kd.R_drew)); exact HO_6.out))) (Kd.R_lt (by (with_reducible repeat (first | apply Kd.R_alloc | apply Kd.R_drewN | apply Kd.R_drew)); exact HO339.out))) (below_size (by repeat (first | (with_reducible first | exact HB.out | apply below_alloc | apply pw_below_drewN | apply below_drew1 | refine below_set ?_ GE330.out) | exact HB.out)))); have n3_ := Aside0.mk (blk_below (g := gb330) (o := .cells #[.slice A0_0 l0_0.length c0_0, .slice (some ad335) l0_1.length c0_1] 25 (0, 0)) (by (with_reducible repeat (first | refine blk_drewN ?_ _ | refine blk_drew ?_ | refine blk_alloc ?_ _)); exact BK330.out) hb); have n4_ := Aside0.mk (below_step (by repeat (first | (with_reducible first | exact HB.out | apply below_alloc | apply pw_below_drewN | apply below_drew1 | refine below_set ?_ GE330.out) | exact HB.out)) hb); clear HO_6; clear HO339; clear BK330; clear HB; have HO_6 := n0_; have HO339 := n1_; have HO342 := n2_; have BK330 := n3_; have HB := n4_; clear n0_ n1_ n2_ n3_ n4_; (try clear hb); (try clear hb2); (try clear hk); (try clear hi); (try clear ho0)))
                go_roundg k1
                case measure => have := HK1.out; omega
                case rel => exact ⟨(t340), (wrap64 (x7_1 + 1)), (by first | rfl | (simp; done) | (simp [*]; done)), H', ⟨by have := HK1.out; omega⟩, ⟨by (with_reducible repeat (first | apply Kd.R_alloc | apply Kd.R_drewN | apply Kd.R_drew)); exact Kd.R_mono HO342.out (fun _ hk => trivial)⟩, ⟨by (with_reducible repeat (first | refine blk_drewN ?_ _ | refine blk_drew ?_ | refine blk_alloc ?_ _)); exact BK330.out⟩, ⟨by repeat (first | (with_reducible first | exact HB.out | apply below_alloc | apply pw_below_drewN | apply below_drew1 | refine below_set ?_ GE330.out) | exact HB.out)⟩⟩
              · rw [if_neg c12] at H
                exact absurd H (by simp)
            · rw [if_neg c11] at H
              exact absurd H (by simp)
          · rw [if_neg c10] at H
            exact absurd H (by simp)
        · rw [if_neg c9] at H
          have c9b0 : decide (0 ≤ t331) = false := decide_eq_false c9
          clear c9
          obtain rfl := Option.some.inj H
          have hcz20_0 : wr.cell? ⟨gb330, 0, none⟩ = some (.slice A0_0 l0_0.length c0_0) := (blk_cell BK330.out 0).trans rfl
          have hcz20_1 : wr.cell? ⟨gb330, 1, none⟩ = some (.slice A0_1 l0_1.length c0_1) := (blk_cell BK330.out 1).trans rfl
          have hfz20_0 := blk_frozen BK330.out 0
          have hfz20_1 := blk_frozen BK330.out 1
          go_wp2
          go_ret
          exact ⟨_, by first | rfl | (simp [errW_none, errW_some] <;> rfl) | (simp [*, errW_none, errW_some] <;> rfl), by (with_reducible repeat (first | apply Kd.R_alloc | apply Kd.R_drewN | apply Kd.R_drew)); exact HO_6.out, by repeat (first | (with_reducible first | exact HB.out | apply below_alloc | apply pw_below_drewN | apply below_drew1 | refine below_set ?_ GE330.out) | exact HB.out)⟩
      · rw [if_neg c8] at H
        have c8b0 : decide (x7_1 < (l0_1.length : Int)) = false := decide_eq_false c8
        clear c8
        obtain rfl := Option.some.inj H
        have hcz21_0 : wr.cell? ⟨gb330, 0, none⟩ = some (.slice A0_0 l0_0.length c0_0) := (blk_cell BK330.out 0).trans rfl
        have hcz21_1 : wr.cell? ⟨gb330, 1, none⟩ = some (.slice A0_1 l0_1.length c0_1) := (blk_cell BK330.out 1).trans rfl
        have hfz21_0 := blk_frozen BK330.out 0
        have hfz21_1 := blk_frozen BK330.out 1
        go_wp2
        go_ret
        exact ⟨_, by first | rfl | (simp [errW_none, errW_some] <;> rfl) | (simp [*, errW_none, errW_some] <;> rfl), by (with_reducible repeat (first | apply Kd.R_alloc | apply Kd.R_drewN | apply Kd.R_drew)); exact HO_6.out, by repeat (first | (with_reducible first | exact HB.out | apply below_alloc | apply pw_below_drewN | apply below_drew1 | refine below_set ?_ GE330.out) | exact HB.out)⟩

end Go.Proofs.Ytlinhcgggfdlpaa.PRefs
