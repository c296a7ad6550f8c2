/- Cut out of what the print tool printed: one function. -/
import Derived.Test.YtlinhcgggfdlpaaPRefsx0
import Derived.Test.YtlinhcgggfdlpaaPRefsx1

namespace Go.Proofs.Ytlinhcgggfdlpaa.PRefs
open Go.RowKit Go.Proofs.YtlinhcgggfdlpaaW.PrintWords Go.Proofs.YtlinhcgggfdlpaaW.PrintLast Go.Proofs.YtlinhcgggfdlpaaW.PrintMore
attribute [local go_sem] max2_int min2_int max_two min_two max_three min_three max_four min_four   -- for this text's walks alone
set_option linter.unusedVariables false
set_option linter.unusedSimpArgs false

/-! ### arboristref01_Find: function 27 -/
def arboristref01_Find.l0 : Nat → List (List Int) → List Int → Int → Option (Int × Bool)
  | 0, _, _, _ => none
  | k + 1, x0, x1, x6 => if x6 < (x0.length : Int) then (if 0 ≤ x6 then ((arboristref01_Compare.f k (rd_L1 x0 x6) x1).bind fun t344 => (if t344 < 0 then (arboristref01_Find.l0 k x0 x1 (wrap64 (x6 + 1))) else ((arboristref01_Compare.f k (rd_L1 x0 x6) x1).bind fun t346 => (some (x6, (t346 == 0)))))) else (none)) else (some (x6, false))
def arboristref01_Find.f (k : Nat) (l0 : List (List Int)) (l1 : List Int) : Option (Int × Bool) := arboristref01_Find.l0 k l0 l1 0
theorem arboristref01_Find.mono_l : ∀ k, (∀ y0 y1 y2, LeO (arboristref01_Find.l0 k y0 y1 y2) (arboristref01_Find.l0 (k + 1) y0 y1 y2))
  | 0 => fun _ _ _ r h => by simp [arboristref01_Find.l0] at h
  | k + 1 => by
    have ih0 := arboristref01_Find.mono_l k
    · intro y0 y1 y2
      unfold arboristref01_Find.l0
      repeat' first
      | (with_reducible exact ih0 _ _ _)
      | (with_reducible exact arboristref01_Compare.mono _ _ _)
      | (with_reducible exact LeO.refl _)
      | (with_reducible exact LeO.none _)
      | (with_reducible refine LeO.ite ?_ ?_)
      | (with_reducible refine LeO.bind ?_ (fun _ => ?_))
      | exact ih0 _ _ _
      | exact arboristref01_Compare.mono _ _ _
      | exact LeO.none _
      | refine LeO.ite ?_ ?_
      | refine LeO.bind ?_ (fun _ => ?_)
theorem arboristref01_Find.mono : ∀ a0 a1 k, LeO (arboristref01_Find.f k a0 a1) (arboristref01_Find.f (k + 1) a0 a1) := by
  intro a0 a1 k
  have ih0 := arboristref01_Find.mono_l k
  unfold arboristref01_Find.f
  repeat' first
      | (with_reducible exact ih0 _ _ _)
      | (with_reducible exact arboristref01_Compare.mono _ _ _)
      | (with_reducible exact LeO.refl _)
      | (with_reducible exact LeO.none _)
      | (with_reducible refine LeO.ite ?_ ?_)
      | (with_reducible refine LeO.bind ?_ (fun _ => ?_))
      | exact ih0 _ _ _
      | exact arboristref01_Compare.mono _ _ _
      | exact LeO.none _
      | refine LeO.ite ?_ ?_
      | refine LeO.bind ?_ (fun _ => ?_)
set_option maxHeartbeats 8000000 in
set_option maxRecDepth 100000 in
theorem arboristref01_Find.calls (k : Nat) (A0 : Option Addr) (c0 : Nat) (l0 : List (List Int)) (A1 : Option Addr) (c1 : Nat) (l1 : List Int) (r1 : Int) (r2 : Bool) (w : World) (hr0 : Kd.C (Kd.slice 3 (Kd.int .i64)) w A0 l0.length l0) (hc0 : l0.length ≤ c0) (hr1 : Kd.C (Kd.int .i64) w A1 l1.length l1) (hc1 : l1.length ≤ c1) (h : arboristref01_Find.f k l0 l1 = some (r1, r2)) :
    Calls Try.prog 27 #[.slice A0 l0.length c0, .slice A1 l1.length c1] w fun e w' => e = .returned (.tuple #[.int .i64 r1, .bool r2]) ∧ Drawn0 w w' := by
  have HR0 := Aside0.mk hr0
  have HC0 := Aside0.mk hc0
  clear hr0 hc0
  have HR1 := Aside0.mk hr1
  have HC1 := Aside0.mk hc1
  clear hr1 hc1
  have H : (arboristref01_Find.l0 k l0 l1 0) = some (r1, r2) := h
  clear h
  have H' := Aside0.mk H
  clear H
  go_enter Try.func27, Try.ntmps27
  go_wp2
  go_loopg [6] k (fun kq v6 w' => ∃ (x6_1 : Int), v6 = .int .i64 x6_1 ∧ Aside0 (arboristref01_Find.l0 kq l0 l1 x6_1 = some (r1, r2)) ∧ Aside0 (kq ≤ k) ∧ Drawn0 w w')
  case atStart => exact ⟨(0), (by first | rfl | (simp; done) | (simp [*]; done)), H', ⟨Nat.le_refl _⟩, by repeat (first | exact Drawn0.refl _ | apply Drawn0.step)⟩
  case round =>
    clear H'
    try clear c1
    try clear c2
    try clear p2
    obtain ⟨x6_1, rfl, HA, HK1, ⟨m1, rfl⟩⟩ := hrel
    cases gk with
    | zero => exact absurd HA.out (by simp [arboristref01_Find.l0])
    | succ k1 =>
      have H := HA.out
      clear HA
      simp only [arboristref01_Find.l0] at H
      by_cases c3 : x6_1 < (l0.length : Int)
      · rw [if_pos c3] at H
        have c3b0 : decide (x6_1 < (l0.length : Int)) = true := decide_eq_true c3
        clear c3
        by_cases c4 : 0 ≤ x6_1
        · rw [if_pos c4] at H
          have c4b0 : decide (0 ≤ x6_1) = true := decide_eq_true c4
          clear c4
          replace H := Option.bind_eq_some_iff.mp H
          obtain ⟨t344, A50, H⟩ := H
          replace H : (if t344 < 0 then (arboristref01_Find.l0 k1 l0 l1 (wrap64 (x6_1 + 1))) else ((arboristref01_Compare.f k1 (rd_L1 l0 x6_1) l1).bind fun t346 => (some (x6_1, (t346 == 0))))) = some (r1, r2) := H
          have A5 := Aside0.mk A50
          clear A50
          by_cases c6 : t344 < 0
          · rw [if_pos c6] at H
            have c6b0 : decide (t344 < 0) = true := decide_eq_true c6
            clear c6
            have H' := Aside0.mk H
            clear H
            have p343 : 0 ≤ (x6_1 : Int) := of_decide_eq_true (by first | (with_reducible assumption) | assumption)
            have q343 : x6_1 < (l0.length : Int) := of_decide_eq_true (by first | (with_reducible assumption) | assumption)
            obtain ⟨ad343, A343_0, c343_0, e343, hx343_0, hl343_0, hi343_0⟩ := at_L1 HR0.out x6_1 p343 q343
            cases e343
            have HR343_0 := Aside0.mk hi343_0
            have HC343_0 := Aside0.mk hl343_0
            clear hi343_0 hl343_0
            replace p343 := eq_true p343
            replace q343 := eq_true q343
            go_wp2_with (first | (go_at_call 22; (with_reducible refine (arboristref01_Compare.calls k1 _ _ (rd_L1 l0 x6_1) _ _ l1 t344 _ ?side1 ?side2 ?side3 ?side4 A5.out).mono ?_); (case side1 => repeat (first | exact HR343_0.out | (with_reducible refine Kd.C_alloc ?_ _) | (with_reducible refine Kd.C_drewN ?_ _) | (with_reducible refine Kd.C_drew ?_))); (case side2 => exact HC343_0.out); (case side3 => repeat (first | exact HR1.out | (with_reducible refine Kd.C_alloc ?_ _) | (with_reducible refine Kd.C_drewN ?_ _) | (with_reducible refine Kd.C_drew ?_))); (case side4 => exact HC1.out); rintro e w' ⟨rfl, ⟨nd, rfl⟩⟩))
            go_roundg k1
            case measure => have := HK1.out; omega
            case rel => exact ⟨(wrap64 (x6_1 + 1)), (by first | rfl | (simp; done) | (simp [*]; done)), H', ⟨by have := HK1.out; omega⟩, by repeat (first | exact Drawn0.refl _ | apply Drawn0.step)⟩
          · rw [if_neg c6] at H
            have c6b0 : decide (t344 < 0) = false := decide_eq_false c6
            clear c6
            replace H := Option.bind_eq_some_iff.mp H
            obtain ⟨t346, A70, H⟩ := H
            replace H : (some (x6_1, (t346 == 0))) = some (r1, r2) := H
            have A7 := Aside0.mk A70
            clear A70
            simp only [Option.some.injEq, Prod.mk.injEq] at H
            obtain ⟨rfl, rfl⟩ := H
            have p343 : 0 ≤ (x6_1 : Int) := of_decide_eq_true (by first | (with_reducible assumption) | assumption)
            have q343 : x6_1 < (l0.length : Int) := of_decide_eq_true (by first | (with_reducible assumption) | assumption)
            obtain ⟨ad343, A343_0, c343_0, e343, hx343_0, hl343_0, hi343_0⟩ := at_L1 HR0.out x6_1 p343 q343
            cases e343
            have HR343_0 := Aside0.mk hi343_0
            have HC343_0 := Aside0.mk hl343_0
            clear hi343_0 hl343_0
            replace p343 := eq_true p343
            replace q343 := eq_true q343
            go_wp2_with (first | (go_at_call 22; (with_reducible refine (arboristref01_Compare.calls k1 _ _ (rd_L1 l0 x6_1) _ _ l1 t344 _ ?side1 ?side2 ?side3 ?side4 A5.out).mono ?_); (case side1 => repeat (first | exact HR343_0.out | (with_reducible refine Kd.C_alloc ?_ _) | (with_reducible refine Kd.C_drewN ?_ _) | (with_reducible refine Kd.C_drew ?_))); (case side2 => exact HC343_0.out); (case side3 => repeat (first | exact HR1.out | (with_reducible refine Kd.C_alloc ?_ _) | (with_reducible refine Kd.C_drewN ?_ _) | (with_reducible refine Kd.C_drew ?_))); (case side4 => exact HC1.out); rintro e w' ⟨rfl, ⟨nd, rfl⟩⟩; have p345 : 0 ≤ (x6_1 : Int) := of_decide_eq_true (by first | (with_reducible assumption) | assumption); have q345 : x6_1 < (l0.length : Int) := of_decide_eq_true (by first | (with_reducible assumption) | assumption); obtain ⟨ad345, A345_0, c345_0, e345, hx345_0, hl345_0, hi345_0⟩ := at_L1 HR0.out x6_1 p345 q345; obtain rfl : ad343 = ad345 := (by injection e345); have HR345_0 := Aside0.mk hi345_0; have HC345_0 := Aside0.mk hl345_0; clear hi345_0 hl345_0; replace p345 := eq_true p345; replace q345 := eq_true q345; have ea_ := Option.some.inj (hx343_0.symm.trans hx345_0); injection ea_ with ea_ en_ ec_; subst ea_; subst ec_; clear en_) | (go_at_call 22; (with_reducible refine (arboristref01_Compare.calls k1 _ _ (rd_L1 l0 x6_1) _ _ l1 t346 _ ?side1 ?side2 ?side3 ?side4 A7.out).mono ?_); (case side1 => repeat (first | exact HR345_0.out | (with_reducible refine Kd.C_alloc ?_ _) | (with_reducible refine Kd.C_drewN ?_ _) | (with_reducible refine Kd.C_drew ?_))); (case side2 => exact HC345_0.out); (case side3 => repeat (first | exact HR1.out | (with_reducible refine Kd.C_alloc ?_ _) | (with_reducible refine Kd.C_drewN ?_ _) | (with_reducible refine Kd.C_drew ?_))); (case side4 => exact HC1.out); rintro e w' ⟨rfl, ⟨nd, rfl⟩⟩))
            go_ret2
            exact ⟨by first | rfl | (simp; done) | (have h35 := Option.some.inj (A5.out.symm.trans A7.out); subst h35; rfl) | (simp [*]; done), by repeat (first | exact Drawn0.refl _ | apply Drawn0.step)⟩
        · rw [if_neg c4] at H
          exact absurd H (by simp)
      · rw [if_neg c3] at H
        have c3b0 : decide (x6_1 < (l0.length : Int)) = false := decide_eq_false c3
        clear c3
        simp only [Option.some.injEq, Prod.mk.injEq] at H
        obtain ⟨rfl, rfl⟩ := H
        go_wp2
        go_ret2
        exact ⟨by first | rfl | (simp; done) | (have h35 := Option.some.inj (A5.out.symm.trans A7.out); subst h35; rfl) | (simp [*]; done), by repeat (first | exact Drawn0.refl _ | apply Drawn0.step)⟩

end Go.Proofs.Ytlinhcgggfdlpaa.PRefs
