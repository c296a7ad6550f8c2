/- Functions that only read rows of numbers: tuple.Rising, slices.Index. -/
import Derived.Test.YtlinhcgggfdlpaaRead
set_option linter.unusedVariables false
set_option linter.unusedSimpArgs false
namespace Go.Proofs.Ytlinhcgggfdlpaa.G
open Go.RowKit Go.Proofs.YtlinhcgggfdlpaaW.PrintWords Go.Proofs.YtlinhcgggfdlpaaW.PrintLast Go.Proofs.YtlinhcgggfdlpaaW.PrintMore

def Rise (l : List Int) : Prop := l.Pairwise (· < ·)
instance (l : List Int) : Decidable (Rise l) := inferInstanceAs (Decidable (List.Pairwise _ _))
theorem rise_snoc (l : List Int) (x : Int) : Rise (l ++ [x]) ↔ Rise l ∧ ∀ y ∈ l, y < x := by
  unfold Rise; rw [List.pairwise_append]; simp
theorem rise_take (l : List Int) (k : Nat) (h : k < l.length) : Rise (l.take (k + 1)) ↔ Rise (l.take k) ∧ (k = 0 ∨ rd l (k - 1 : Nat) < rd l k) := by
  rw [take_succ_rd l k h, rise_snoc]
  constructor
  · rintro ⟨h1, h2⟩
    refine ⟨h1, ?_⟩
    rcases Nat.eq_zero_or_pos k with h0 | h0
    · exact .inl h0
    · refine .inr (h2 _ ?_)
      rw [rd_get l (k - 1) (by omega)]
      exact List.mem_take_iff_getElem.2 ⟨k - 1, by omega, rfl⟩
  · rintro ⟨h1, h2⟩
    refine ⟨h1, fun y hy => ?_⟩
    obtain ⟨j, hj, rfl⟩ := List.mem_take_iff_getElem.1 hy
    have hj' : j < k := by omega
    rcases h2 with h2 | h2
    · omega
    · rw [rd_get l (k - 1) (by omega)] at h2
      by_cases e : j = k - 1
      · subst e; exact h2
      · have := List.pairwise_iff_getElem.1 h1 j (k - 1) (by simp; omega) (by simp; omega) (by omega)
        simp only [List.getElem_take] at this
        omega

def idx (l : List Int) (x : Int) : Int := if x ∈ l then (l.idxOf x : Int) else -1

set_option maxHeartbeats 1000000 in
set_option maxRecDepth 100000 in
theorem tuple_Rising_any (A0 : Option Addr) (c0 : Nat) (l0 : List Int) (w : World) (hr0 : Kd.C KI w A0 l0.length l0) :
    Calls Try.prog 38 #[.slice A0 l0.length c0] w fun e w' => e = .returned (.bool (decide (Rise l0))) ∧ Drawn0 w w' := by
  have HR0 := Aside0.mk hr0
  have hm0 : l0.length ≤ 9223372036854775807 := hr0.2.1
  clear hr0
  go_enter Try.func38, Try.ntmps38
  go_wp2
  go_loopw [3] (fun i wr => ∃ k : Nat, 1 ≤ k ∧ (k ≤ l0.length ∨ k = 1) ∧ i = .int .i64 k ∧ Aside0 (Drawn0 w wr) ∧ Aside0 (Rise (l0.take k))) (fun i _ => l0.length - (intOf i).toNat)
  case atStart => exact ⟨1, Nat.le_refl _, .inr rfl, rfl, ⟨Drawn0.refl w⟩, ⟨by unfold Rise; cases l0 with | nil => simp | cons a l => simp⟩⟩
  case round =>
    obtain ⟨k, hk0, hk, rfl, HW, HE⟩ := hrel
    by_cases hlt : k < l0.length
    · obtain ⟨ad, rfl, hx⟩ := at_int' HR0.out HW.out.below k (by omega) (by omega)
      obtain ⟨ad', e, hy⟩ := at_int' HR0.out HW.out.below (k - 1 : Nat) (by omega) (by omega)
      cases e
      simp only [Int.toNat_natCast] at hx hy
      have hlt0 : (k : Int) < (l0.length : Int) := by omega
      have hlt1 : (k : Int) - 1 < (l0.length : Int) := by omega
      have hge1 : 0 ≤ (k : Int) - 1 := by omega
      have hge2 : 1 ≤ (k : Int) := by omega
      have HS := Aside0.mk (rise_take l0 k hlt)
      by_cases hc : rd l0 (k - 1 : Nat) < rd l0 k
      · have hb : decide (rd l0 k ≤ rd l0 (k - 1 : Nat)) = false := by simp; omega
        have HC2 := Aside0.mk hc
        clear hc
        go_wp2
        go_quiet (fail)
        go_wp2
        go_roundw
        case rel => exact ⟨k + 1, by omega, .inl (by omega), by go_num, ⟨HW.out.step _⟩, ⟨HS.out.2 ⟨HE.out, .inr HC2.out⟩⟩⟩
        case measure => simp [intOf]; omega
      · have hb : decide (rd l0 k ≤ rd l0 (k - 1 : Nat)) = true := by simp; omega
        have HC2 := Aside0.mk hc
        clear hc
        have hno : Aside0 (decide (Rise l0) = false) := ⟨decide_eq_false fun h => by
          have h1 : Rise (l0.take (k + 1)) := List.Pairwise.sublist (List.take_sublist _ _) h
          rcases (HS.out.1 h1).2 with e | e
          · omega
          · exact HC2.out e⟩
        go_wp2
        go_quiet (fail)
        go_wp2
        go_ret
        exact ⟨by rw [hno.out]; rfl, HW.out.step _⟩
    · have hyes : Aside0 (decide (Rise l0) = true) := ⟨decide_eq_true (by have := HE.out; rwa [List.take_of_length_le (by omega)] at this)⟩
      go_wp2
      go_ret
      exact ⟨by rw [hyes.out]; rfl, HW.out⟩

set_option maxHeartbeats 1000000 in
set_option maxRecDepth 100000 in
theorem slices_Index_any (A0 : Option Addr) (c0 : Nat) (l0 : List Int) (x : Int) (w : World) (hr0 : Kd.C KI w A0 l0.length l0) :
    Calls Try.prog 55 #[.slice A0 l0.length c0, .int .i64 x] w fun e w' => e = .returned (.int .i64 (idx l0 x)) ∧ w = w' := by
  have HR0 := Aside0.mk hr0
  have hm0 : l0.length ≤ 9223372036854775807 := hr0.2.1
  clear hr0
  go_enter Try.func55, Try.ntmps55
  go_wp2
  go_loop [8] (fun i => ∃ k : Nat, k ≤ l0.length ∧ i = .int .i64 k ∧ Aside0 (x ∉ l0.take k)) (fun i => l0.length - (intOf i).toNat)
  case atStart => exact ⟨0, Nat.zero_le _, rfl, ⟨by simp⟩⟩
  case round =>
    obtain ⟨k, hk, rfl, HE⟩ := hrel
    by_cases hlt : k < l0.length
    · obtain ⟨ad, rfl, hx⟩ := at_int' HR0.out (Below.refl _ _) k (by omega) (by omega)
      simp only [Int.toNat_natCast] at hx
      have HS := Aside0.mk (take_succ_rd l0 k hlt)
      by_cases hc : x = rd l0 k
      · have hb : (x == rd l0 k) = true := by simp [hc]
        have hb' : (rd l0 k == x) = true := by simp [hc]
        have hi : Aside0 (idx l0 x = k) := ⟨by
          have hm : x ∈ l0 := by rw [hc, rd_get l0 k hlt]; exact List.getElem_mem hlt
          unfold idx
          rw [if_pos hm]
          have hn := HE.out
          have h1 : l0.idxOf x ≤ k := by
            have h2 := List.idxOf_lt_length_of_mem hm
            rcases Nat.lt_or_ge k (l0.idxOf x) with h3 | h3
            · have := List.not_of_lt_findIdx (p := (· == x)) (xs := l0) h3
              have hck : l0[k] = x := by rw [hc, rd_get l0 k hlt]
              exact absurd this (by simp [hck])
            · exact h3
          have h2 : ¬ l0.idxOf x < k := fun h3 => hn (by
            have h4 := List.idxOf_lt_length_of_mem hm
            refine List.mem_take_iff_getElem.2 ⟨l0.idxOf x, by omega, ?_⟩
            exact List.getElem_idxOf h4)
          omega⟩
        have HC2 := Aside0.mk hc
        clear hc
        go_wp2
        go_ret
        exact ⟨by rw [hi.out]; rfl, rfl⟩
      · have hb : (x == rd l0 k) = false := by simp [hc]
        have hb' : (rd l0 k == x) = false := by simp; exact fun e => hc e.symm
        have HC2 := Aside0.mk hc
        clear hc
        go_wp2
        go_round
        case rel => exact ⟨k + 1, by omega, by go_num, ⟨by rw [HS.out]; simp only [List.mem_append, List.mem_singleton, not_or]; exact ⟨HE.out, HC2.out⟩⟩⟩
        case measure => simp [intOf]; omega
    · have hi : Aside0 (idx l0 x = -1) := ⟨by
        have h := HE.out
        rw [List.take_of_length_le (by omega)] at h
        unfold idx
        rw [if_neg h]⟩
      go_wp2
      go_ret
      exact ⟨by rw [hi.out]; rfl, rfl⟩
end Go.Proofs.Ytlinhcgggfdlpaa.G

set_option linter.unusedVariables false
set_option linter.unusedSimpArgs false
namespace Go.Proofs.Ytlinhcgggfdlpaa.G
open Go.RowKit Go.Proofs.YtlinhcgggfdlpaaW.PrintWords Go.Proofs.YtlinhcgggfdlpaaW.PrintLast Go.Proofs.YtlinhcgggfdlpaaW.PrintMore

set_option maxHeartbeats 1000000 in
set_option maxRecDepth 100000 in
theorem slices_Clone_any (A0 : Option Addr) (c0 : Nat) (l0 : List Int) (w : World) (hr0 : Kd.C KI w A0 l0.length l0) (hl : l0.length < 17592186044416) :
    Calls Try.prog 48 #[.slice A0 l0.length c0] w fun e w' => ∃ v, e = .returned v ∧ Kd.R KI 3 w' w.heap.size AnyB v l0 ∧ Below w.heap.size w w' := by
  have q22 : ∀ (w : World) (a : Option Addr) (n c n' c' : Nat), (binOp .eql 22 (.slice a n c) (.slice none n' c')).run Try.prog w = .ok (.bool a.isNone) w := fun w a n c n' c' => Lib.run_eql_slice_nil w _ _ a n c n' c' Try.underlying22
  have HR0 := Aside0.mk hr0
  clear hr0
  rcases A0 with _ | ad
  · have hl0 : l0 = [] := nil_of_none HR0.out
    subst hl0
    go_enter Try.func48, Try.ntmps48
    go_wp2
    go_ret
    exact ⟨_, rfl, Kd.R_nil _ _ _ _ _, Below.refl _ _⟩
  · go_enter Try.func48, Try.ntmps48
    go_wp2_with (at_builtin; refine app_ints (w := w) w.heap.size rfl (.tmp 5) (.tmp 6) rfl _ [] l0 (some ad) c0 rfl rfl ⟨R_lit0 w⟩ (Kd.C_below HR0.out (below_alloc (Below.refl _ _) _)) ⟨below_alloc (Below.refl _ _) _⟩ (by simp) (by simp; omega) ?_; intro v1 w1 HO HB HG)
    go_ret
    exact ⟨_, rfl, HO.out, HB.out⟩
end Go.Proofs.Ytlinhcgggfdlpaa.G
