/- tuple.Pick: a row's numbers at some places. -/
import Derived.Test.YtlinhcgggfdlpaaKit
import Derived.Lib.Hide
set_option linter.unusedVariables false
set_option linter.unusedSimpArgs false
namespace Go.Proofs.Ytlinhcgggfdlpaa.G
open Go.RowKit Go.Proofs.YtlinhcgggfdlpaaW.PrintWords Go.Proofs.YtlinhcgggfdlpaaW.PrintLast Go.Proofs.YtlinhcgggfdlpaaW.PrintMore

def pick (t : List Int) (ps : List Int) : List Int := ps.filterMap fun (p : Int) => if 0 ≤ p ∧ p < (t.length : Int) then some (rd t p) else none

theorem pick_snoc_in (t ps : List Int) (p : Int) (h0 : 0 ≤ p) (h1 : p < t.length) : pick t (ps ++ [p]) = pick t ps ++ [rd t p] := by
  simp [pick, List.filterMap_append, h0, h1]
theorem pick_snoc_out (t ps : List Int) (p : Int) (h : ¬ (0 ≤ p ∧ p < t.length)) : pick t (ps ++ [p]) = pick t ps := by
  simp only [pick, List.filterMap_append, List.filterMap_cons, List.filterMap_nil]; rw [if_neg h]; simp

set_option maxHeartbeats 1000000 in
set_option maxRecDepth 100000 in
theorem tuple_Pick_any (A0 : Option Addr) (c0 : Nat) (l0 : List Int) (A1 : Option Addr) (c1 : Nat) (l1 : List Int) (w : World)
    (hr0 : Kd.C KI w A0 l0.length l0) (hr1 : Kd.C KI w A1 l1.length l1) (hL : l1.length ≤ 1000000000) :
    Calls Try.prog 62 #[.slice A0 l0.length c0, .slice A1 l1.length c1] w fun e w' => ∃ v, e = .returned v ∧ Kd.R KI 3 w' w.heap.size AnyB v (pick l0 l1) ∧ Below w.heap.size w w' := by
  have HR0 := Aside0.mk hr0
  have HR1 := Aside0.mk hr1
  clear hr0 hr1
  obtain ⟨i0, hi, hz0, hz1, hz2⟩ := info_parts infoInt
  obtain ⟨w1, hmk, hown, hg⟩ := run_make_own (P := Try.prog) w w.heap.size 22 3 i0 (.int .i64 0) 1 Try.underlying22 hi hz0 hz1 .i64 .i64 l1.length (by rw [hz2]; omega) (by unfold maxLen; omega) (Nat.le_refl _)
  go_enter Try.func62, Try.ntmps62
  go_wp2
  have H0 := Aside0.mk hown
  have H1 := Aside0.mk hg
  clear hown hg hmk
  go_loopw [5, 13] (fun v i wr => ∃ k : Nat, k ≤ l1.length ∧ i = .int .i64 k ∧ Aside0 (Kd.R KI 3 wr w.heap.size AnyB v (pick l0 (l1.take k))) ∧ Aside0 (Below w.heap.size w wr)) (fun _ i _ => l1.length - (intOf i).toNat)
  case atStart => exact ⟨0, Nat.zero_le _, rfl, ⟨R_made _ _ _ H0.out⟩, ⟨(Below.refl _ _).grown H1.out (Nat.le_refl _) (fun _ h => by cases h)⟩⟩
  case round =>
    obtain ⟨k, hk, rfl, HO, HB⟩ := hrel
    by_cases hlt : k < l1.length
    · obtain ⟨ad, rfl, hx⟩ := Kd.at_int HR1.out k (by omega) (by omega)
      replace hx := (HB.out.cell (World.block_lt_of_cell? w _ hx)).trans hx
      simp only [Int.toNat_natCast] at hx
      have ht : Hid (l1.take (k + 1) = l1.take k ++ [rd l1 k]) := Lib.hid (by rw [List.take_succ_eq_append_getElem hlt]; simp [rd, List.getD_eq_getElem?_getD, hlt])
      have hpl : (pick l0 (l1.take k)).length ≤ k := by unfold pick; exact Nat.le_trans (List.length_filterMap_le _ _) (by simp; omega)
      by_cases hp0 : 0 ≤ rd l1 k
      · by_cases hp1 : rd l1 k < l0.length
        · obtain ⟨ad2, rfl, hy⟩ := Kd.at_int HR0.out _ hp0 hp1
          replace hy := (HB.out.cell (World.block_lt_of_cell? w _ hy)).trans hy
          go_wp2_with (at_builtin; refine app_int (w := w) w.heap.size rfl (.tmp 25) (.tmp 30) rfl _ (pick l0 (l1.take k)) (rd l0 (rd l1 k)) rfl rfl HO HB HB.out.size (by omega) ?_; clear HO HB; intro v1 w2 HO HB HG)
          go_roundw
          case rel => exact ⟨k + 1, by omega, by go_num, by rw [ht.out, pick_snoc_in _ _ _ hp0 hp1]; exact HO, HB⟩
          case measure => simp [intOf]; omega
        · go_wp2
          go_roundw
          case rel => exact ⟨k + 1, by omega, by go_num, by rw [ht.out, pick_snoc_out _ _ _ (by omega)]; exact HO, HB⟩
          case measure => simp [intOf]; omega
      · go_wp2
        go_roundw
        case rel => exact ⟨k + 1, by omega, by go_num, by rw [ht.out, pick_snoc_out _ _ _ (by omega)]; exact HO, HB⟩
        case measure => simp [intOf]; omega
    · go_wp2
      go_ret
      exact ⟨_, rfl, by rw [List.take_of_length_le (by omega)] at HO; exact HO.out, HB.out⟩
end Go.Proofs.Ytlinhcgggfdlpaa.G
