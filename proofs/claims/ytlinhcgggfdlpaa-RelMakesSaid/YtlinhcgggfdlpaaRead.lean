/- Functions that only read rows of numbers: slices.Equal, slices.Compare, tuple.Compare, tuple.Rising, slices.Index. -/
import Derived.Test.YtlinhcgggfdlpaaKit
import Derived.Test.YtlinhcgggfdlpaaPlain
set_option linter.unusedVariables false
set_option linter.unusedSimpArgs false
namespace Go.Proofs.Ytlinhcgggfdlpaa.G
open Go.RowKit Go.Proofs.YtlinhcgggfdlpaaW.PrintWords Go.Proofs.YtlinhcgggfdlpaaW.PrintLast Go.Proofs.YtlinhcgggfdlpaaW.PrintMore

set_option maxHeartbeats 1000000 in
set_option maxRecDepth 100000 in
/-- slices.Equal at rows of numbers. -/
theorem slices_Equal_any (A0 : Option Addr) (c0 : Nat) (l0 : List Int) (A1 : Option Addr) (c1 : Nat) (l1 : List Int) (w : World)
    (hr0 : Kd.C KI w A0 l0.length l0) (hr1 : Kd.C KI w A1 l1.length l1) :
    Calls Try.prog 46 #[.slice A0 l0.length c0, .slice A1 l1.length c1] w fun e w' => e = .returned (.bool (decide (l0 = l1))) ∧ Drawn0 w w' := by
  have HR0 := Aside0.mk hr0
  have HR1 := Aside0.mk hr1
  have hm0 : l0.length ≤ 9223372036854775807 := hr0.2.1
  clear hr0 hr1
  by_cases hlen : l0.length = l1.length
  · have hl : ((l0.length : Int) != (l1.length : Int)) = false := by simp [hlen]
    go_enter Try.func46, Try.ntmps46
    go_wp2
    go_loopw [13] (fun i wr => ∃ k : Nat, k ≤ l1.length ∧ i = .int .i64 k ∧ Aside0 (Drawn0 w wr) ∧ Aside0 (l0.take k = l1.take k)) (fun i _ => l1.length - (intOf i).toNat)
    case atStart => exact ⟨0, Nat.zero_le _, rfl, ⟨Drawn0.refl w⟩, ⟨rfl⟩⟩
    case round =>
      obtain ⟨k, hk, rfl, HW, HE⟩ := hrel
      by_cases hlt : k < l1.length
      · obtain ⟨ad, rfl, hx⟩ := at_int' HR0.out HW.out.below k (by omega) (by omega)
        obtain ⟨ad2, rfl, hy⟩ := at_int' HR1.out HW.out.below k (by omega) (by omega)
        simp only [Int.toNat_natCast] at hx hy
        have hlt0 : (k : Int) < (l0.length : Int) := by omega
        by_cases he : rd l0 k = rd l1 k
        · have hb : (rd l0 k != rd l1 k) = false := by simp [he]
          have HE2 := Aside0.mk he
          clear he
          go_wp2
          go_quiet (fail)
          go_wp2
          go_roundw
          case rel => exact ⟨k + 1, by omega, by go_num, ⟨HW.out.step _⟩, ⟨by rw [take_succ_rd _ _ (by omega), take_succ_rd _ _ hlt, HE.out, HE2.out]⟩⟩
          case measure => simp [intOf]; omega
        · have hb : (rd l0 k != rd l1 k) = true := by simp [he]
          have HE2 := Aside0.mk he
          clear he
          go_wp2
          go_quiet (fail)
          go_wp2
          go_ret
          exact ⟨by rw [decide_eq_false (fun e => HE2.out (by rw [e]))]; rfl, HW.out.step _⟩
      · go_wp2
        go_ret
        refine ⟨?_, HW.out⟩
        rw [List.take_of_length_le (by omega), List.take_of_length_le (by omega)] at HE
        rw [decide_eq_true HE.out]; rfl
  · have hl : ((l0.length : Int) != (l1.length : Int)) = true := by simp; omega
    go_enter Try.func46, Try.ntmps46
    go_wp2
    go_ret
    exact ⟨by rw [decide_eq_false (fun e => hlen (by rw [e]))]; rfl, Drawn0.refl w⟩

theorem drop_rd (l : List Int) (k : Nat) (h : k < l.length) : l.drop k = rd l k :: l.drop (k + 1) := by
  rw [List.drop_eq_getElem_cons h, rd_get l k h]
theorem cmp_at (l m : List Int) (k : Nat) (h : k < l.length) (h' : k < m.length) :
    Pl.cmp (l.drop k) (m.drop k) = if rd l k < rd m k then -1 else if rd m k < rd l k then 1 else Pl.cmp (l.drop (k + 1)) (m.drop (k + 1)) := by
  rw [drop_rd l k h, drop_rd m k h']; rfl

/-- What cmp.Compare says of two numbers. -/
def cmpI (a b : Int) : Int := if a < b then -1 else if b < a then 1 else 0

set_option maxHeartbeats 1000000 in
theorem cmp_isNaN_any (a : Int) (w : World) : Calls Try.prog 88 #[.int .i64 a] w fun e w' => e = .returned (.bool false) ∧ w = w' := by
  have h : (a != a) = false := by simp
  go_enter Try.func88, Try.ntmps88
  go_wp2
  go_ret
  exact ⟨rfl, rfl⟩

set_option maxHeartbeats 1000000 in
theorem cmp_Compare_any (a b : Int) (w : World) : Calls Try.prog 74 #[.int .i64 a, .int .i64 b] w fun e w' => e = .returned (.int .i64 (cmpI a b)) ∧ w = w' := by
  unfold cmpI
  by_cases h1 : a < b
  · rw [if_pos h1]
    go_enter Try.func74, Try.ntmps74
    go_wp2_with (go_at_call 88; refine (cmp_isNaN_any _ _).mono ?_; rintro e w' ⟨rfl, rfl⟩)
    go_ret
    exact ⟨rfl, rfl⟩
  · rw [if_neg h1]
    by_cases h2 : b < a
    · rw [if_pos h2]
      go_enter Try.func74, Try.ntmps74
      go_wp2_with (go_at_call 88; refine (cmp_isNaN_any _ _).mono ?_; rintro e w' ⟨rfl, rfl⟩)
      go_ret
      exact ⟨rfl, rfl⟩
    · rw [if_neg h2]
      go_enter Try.func74, Try.ntmps74
      go_wp2_with (go_at_call 88; refine (cmp_isNaN_any _ _).mono ?_; rintro e w' ⟨rfl, rfl⟩)
      go_ret
      exact ⟨rfl, rfl⟩

set_option maxHeartbeats 2000000 in
set_option maxRecDepth 100000 in
/-- slices.Compare at rows of numbers. -/
theorem slices_Compare_any (A0 : Option Addr) (c0 : Nat) (l0 : List Int) (A1 : Option Addr) (c1 : Nat) (l1 : List Int) (w : World)
    (hr0 : Kd.C KI w A0 l0.length l0) (hr1 : Kd.C KI w A1 l1.length l1) :
    Calls Try.prog 64 #[.slice A0 l0.length c0, .slice A1 l1.length c1] w fun e w' => e = .returned (.int .i64 (Pl.cmp l0 l1)) ∧ Drawn0 w w' := by
  have HR0 := Aside0.mk hr0
  have HR1 := Aside0.mk hr1
  have hm0 : l0.length ≤ 9223372036854775807 := hr0.2.1
  have hm1 : l1.length ≤ 9223372036854775807 := hr1.2.1
  clear hr0 hr1
  go_enter Try.func64, Try.ntmps64
  go_wp2
  go_loopw [11] (fun i wr => ∃ k : Nat, k ≤ l0.length ∧ k ≤ l1.length ∧ i = .int .i64 k ∧ Aside0 (Drawn0 w wr) ∧ Aside0 (Pl.cmp (l0.drop k) (l1.drop k) = Pl.cmp l0 l1)) (fun i _ => l0.length - (intOf i).toNat)
  case atStart => exact ⟨0, Nat.zero_le _, Nat.zero_le _, rfl, ⟨Drawn0.refl w⟩, ⟨rfl⟩⟩
  case round =>
    obtain ⟨k, hk, hk1, rfl, HW, HE⟩ := hrel
    by_cases hlt : k < l0.length
    · obtain ⟨ad, rfl, hx⟩ := at_int' HR0.out HW.out.below k (by omega) (by omega)
      simp only [Int.toNat_natCast] at hx
      by_cases hlt1 : k < l1.length
      · obtain ⟨ad2, rfl, hy⟩ := at_int' HR1.out HW.out.below k (by omega) (by omega)
        simp only [Int.toNat_natCast] at hy
        have HS := Aside0.mk (cmp_at l0 l1 k hlt hlt1)
        have HC : Hid (cmpI (rd l0 k) (rd l1 k) = if rd l0 k < rd l1 k then -1 else if rd l1 k < rd l0 k then 1 else 0) := Lib.hid rfl
        by_cases hc : cmpI (rd l0 k) (rd l1 k) = 0
        · have hb : (cmpI (rd l0 k) (rd l1 k) != 0) = false := by simp [hc]
          have HC2 := Aside0.mk hc
          clear hc
          go_wp2_with (go_at_call 74; refine (cmp_Compare_any _ _ _).mono ?_; rintro e w' ⟨rfl, rfl⟩)
          go_roundw
          case rel =>
            refine ⟨k + 1, by omega, by omega, by go_num, HW, ⟨?_⟩⟩
            rw [← HE.out, HS.out]
            have h := HC2.out
            rw [HC.out] at h
            split at h
            · simp at h
            · split at h
              · simp at h
              · rw [if_neg ‹_›, if_neg ‹_›]
          case measure => simp [intOf]; omega
        · have hb : (cmpI (rd l0 k) (rd l1 k) != 0) = true := by simp [hc]
          have HC2 := Aside0.mk hc
          clear hc
          go_wp2_with (go_at_call 74; refine (cmp_Compare_any _ _ _).mono ?_; rintro e w' ⟨rfl, rfl⟩)
          go_ret
          refine ⟨?_, HW.out⟩
          rw [← HE.out, HS.out]
          have h := HC2.out
          show Ending.returned (.int .i64 (cmpI _ _)) = _
          rw [HC.out] at h ⊢
          split
          · rfl
          · split
            · rfl
            · rw [if_neg ‹_›, if_neg ‹_›] at h; exact absurd rfl h
      · have hb : decide ((l1.length : Int) ≤ k) = true := by simp; omega
        go_wp2
        go_ret
        refine ⟨?_, HW.out⟩
        rw [← HE.out, List.drop_of_length_le (l := l1) (by omega), drop_rd l0 k hlt]; rfl
    · by_cases hlt1 : l0.length < l1.length
      · go_wp2
        go_ret
        refine ⟨?_, HW.out⟩
        rw [← HE.out, List.drop_of_length_le (l := l0) (by omega), drop_rd l1 k (by omega)]; rfl
      · go_wp2
        go_ret
        refine ⟨?_, HW.out⟩
        rw [← HE.out, List.drop_of_length_le (l := l0) (by omega), List.drop_of_length_le (l := l1) (by omega)]; rfl

set_option maxHeartbeats 1000000 in
/-- tuple.Compare. -/
theorem tuple_Compare_any (A0 : Option Addr) (c0 : Nat) (l0 : List Int) (A1 : Option Addr) (c1 : Nat) (l1 : List Int) (w : World)
    (hr0 : Kd.C KI w A0 l0.length l0) (hr1 : Kd.C KI w A1 l1.length l1) :
    Calls Try.prog 43 #[.slice A0 l0.length c0, .slice A1 l1.length c1] w fun e w' => e = .returned (.int .i64 (Pl.cmp l0 l1)) ∧ Drawn0 w w' := by
  have HR0 := Aside0.mk hr0
  have HR1 := Aside0.mk hr1
  clear hr0 hr1
  go_enter Try.func43, Try.ntmps43
  go_wp2_with (go_at_call 64; refine (slices_Compare_any _ _ _ _ _ _ _ HR0.out HR1.out).mono ?_; rintro e w' ⟨rfl, hd⟩)
  go_ret
  exact ⟨rfl, hd⟩
end Go.Proofs.Ytlinhcgggfdlpaa.G
