/- tuple.Find: where a row stands among rows in their order. -/
import Derived.Test.YtlmkgghpaaadhaaGreatDoorMB
import Derived.Laws.Shifts
import Derived.Lib.Walk
import Derived.Laws.Entries
import Derived.Sort.Walk0
set_option linter.unusedVariables false
set_option linter.unusedSimpArgs false
namespace Go.Proofs.YtlmkgghpaaadhaaGreatDoor.G
open Go.RowKit Go.Proofs.YtlmkgghpaaadhaaGreatDoorW.PrintWords Go.Proofs.YtlmkgghpaaadhaaGreatDoorW.PrintLast Go.Proofs.YtlmkgghpaaadhaaGreatDoorW.PrintMore

theorem drawn_trans {w1 w2 w3 : World} (h : Drawn0 w1 w2) (k : Drawn0 w2 w3) : Drawn0 w1 w3 := by
  obtain ⟨n, rfl⟩ := k.out
  exact h.step n
/-- Rows none of which is behind one that is less. -/
def Ord (L : List (List Int)) : Prop := L.Pairwise fun a b => ¬ Pl.lt b a
def pos (L : List (List Int)) (t : List Int) : Nat := L.countP fun x => decide (Pl.lt x t)

theorem ord_lt {L : List (List Int)} (ho : Ord L) {t : List Int} {a b : Nat} (hab : a ≤ b) (hb : b < L.length) (h : Pl.lt (L.getD b []) t) : Pl.lt (L.getD a []) t := by
  by_cases e : a = b
  · subst e; exact h
  · have h1 := List.pairwise_iff_getElem.1 ho a b (by omega) hb (by omega)
    rw [List.getD_eq_getElem?_getD, List.getElem?_eq_getElem hb] at h
    rw [List.getD_eq_getElem?_getD, List.getElem?_eq_getElem (by omega)]
    simp only [Option.getD_some] at h ⊢
    rcases Pl.lt_total L[a] L[b] with e | e | e
    · exact Pl.lt_trans e h
    · rw [e]; exact h
    · exact absurd e h1
theorem pos_of {L : List (List Int)} {t : List Int} {i : Nat} (hi : i ≤ L.length) (h1 : ∀ k, k < i → Pl.lt (L.getD k []) t) (h2 : ∀ k, i ≤ k → k < L.length → ¬ Pl.lt (L.getD k []) t) : pos L t = i := by
  have e : L = L.take i ++ L.drop i := (List.take_append_drop i L).symm
  unfold pos
  rw [e, List.countP_append]
  have a1 : (L.take i).countP (fun x => decide (Pl.lt x t)) = i := by
    rw [List.countP_eq_length.2, List.length_take, Nat.min_eq_left hi]
    intro x hx
    obtain ⟨j, hj, rfl⟩ := List.mem_take_iff_getElem.1 hx
    have := h1 j (by omega)
    rw [List.getD_eq_getElem?_getD, List.getElem?_eq_getElem (by omega)] at this
    exact decide_eq_true this
  have a2 : (L.drop i).countP (fun x => decide (Pl.lt x t)) = 0 := by
    rw [List.countP_eq_zero]
    intro x hx
    obtain ⟨j, hj, rfl⟩ := List.getElem_of_mem hx
    rw [List.length_drop] at hj
    have := h2 (i + j) (by omega) (by omega)
    rw [List.getD_eq_getElem?_getD, List.getElem?_eq_getElem (by omega)] at this
    rw [List.getElem_drop]
    simpa using this
  rw [a1, a2, Nat.add_zero]
theorem mem_at {L : List (List Int)} (ho : Ord L) {t : List Int} {i : Nat} (h1 : ∀ k, k < i → Pl.lt (L.getD k []) t) (h2 : ∀ k, i ≤ k → k < L.length → ¬ Pl.lt (L.getD k []) t) : t ∈ L ↔ i < L.length ∧ Pl.cmp (L.getD i []) t = 0 := by
  constructor
  · intro h
    obtain ⟨j, hj, rfl⟩ := List.getElem_of_mem h
    have hij : i ≤ j := by
      rcases Nat.lt_or_ge j i with h3 | h3
      · have := h1 j h3
        rw [List.getD_eq_getElem?_getD, List.getElem?_eq_getElem hj] at this
        exact absurd this (Pl.lt_irrefl _)
      · exact h3
    refine ⟨by omega, ?_⟩
    rw [Pl.cmp_eq]
    have h3 := h2 i (Nat.le_refl _) (by omega)
    rw [List.getD_eq_getElem?_getD, List.getElem?_eq_getElem (by omega : i < L.length)] at h3 ⊢
    simp only [Option.getD_some] at h3 ⊢
    by_cases e : i = j
    · subst e; rfl
    · rcases Pl.lt_total L[i] L[j] with e' | e' | e'
      · exact absurd e' h3
      · exact e'
      · exact absurd e' (List.pairwise_iff_getElem.1 ho i j (by omega) hj (by omega))
  · rintro ⟨hi, h⟩
    rw [Pl.cmp_eq] at h
    rw [← h, List.getD_eq_getElem?_getD, List.getElem?_eq_getElem hi]
    exact List.getElem_mem hi

set_option maxHeartbeats 2000000 in
set_option maxRecDepth 100000 in
theorem bsearch_any (A0 : Option Addr) (c0 : Nat) (L : List (List Int)) (A1 : Option Addr) (c1 : Nat) (t : List Int) (w : World) (hr0 : Kd.C KL w A0 L.length L) (hr1 : Kd.C KI w A1 t.length t) (hm : L.length ≤ 1000000000) (ho : Ord L) :
    Calls Tryz.prog 99 #[.slice A0 L.length c0, .slice A1 t.length c1, .func (.func 83) #[] #[]] w fun e w' =>
      e = .returned (.tuple #[.int .i64 (pos L t), .bool (decide (t ∈ L))]) ∧ Drawn0 w w' := by
  have HR0 := Aside0.mk hr0
  have HR1 := Aside0.mk hr1
  have HO := Aside0.mk ho
  clear hr0 hr1 ho
  go_enter Tryz.func99, Tryz.ntmps99
  go_wp2
  go_loopw [9, 10] (fun i j W => ∃ (a b : Nat), i = .int .i64 a ∧ j = .int .i64 b ∧ a ≤ b ∧ b ≤ L.length ∧ Aside0 (Drawn0 w W) ∧ Aside0 (∀ k, k < a → Pl.lt (L.getD k []) t) ∧ Aside0 (∀ k, b ≤ k → k < L.length → ¬ Pl.lt (L.getD k []) t)) (fun i j _ => (intOf j).toNat - (intOf i).toNat)
  case atStart => exact ⟨0, L.length, rfl, rfl, Nat.zero_le _, Nat.le_refl _, ⟨Drawn0.refl w⟩, ⟨fun k hk => by omega⟩, ⟨fun k hk hk' => by omega⟩⟩
  case round =>
    obtain ⟨a, b, rfl, rfl, hab, hb, HW, HL, HH⟩ := hrel
    by_cases hlt : a < b
    · obtain ⟨ad, B, c, rfl, hx, hc, hcx⟩ := at_row HR0.out HW.out.below ((a + b) / 2) (by omega)
      obtain ⟨x, hxe⟩ : ∃ x, x = L.getD ((a + b) / 2) [] := ⟨_, rfl⟩
      rw [← hxe] at hx hcx hc
      have HXE := Aside0.mk hxe
      have HCX := Aside0.mk hcx
      clear hxe hcx hc
      have hshr : ∀ W, (binOp .shr 128 (.int .u64 ((a : Int) + b)) (.int .u64 1)).run Tryz.prog W = .ok (.int .u64 (((a + b) / 2 : Nat) : Int)) W := fun W => by
        simp only [binOp_shr, shift_shr_any .u64 .u64 ((a : Int) + b) 1 (by omega)]
        show Result.ok _ W = _
        rw [show ((a : Int) + b) / 2 ^ min (1 : Int).toNat IntKind.u64.bits = (((a + b) / 2 : Nat) : Int) by show ((a : Int) + b) / 2 ^ 1 = _; omega]
      have hh1 : ((a + b) / 2 : Nat) < L.length := by omega
      have hh2 : (((a + b) / 2 : Nat) : Int) < (L.length : Int) := by omega
      have HTC := Aside0.mk (Kd.C_below HR1.out HW.out.below)
      by_cases hc : Pl.cmp x t < 0
      · have HC := Aside0.mk ((Pl.cmp_neg x t).1 hc)
        go_wp2_with (go_at_call 83; refine (tuple_Compare_any _ _ x _ _ t _ HCX.out HTC.out).mono ?_; rintro e w' ⟨rfl, hd⟩; have HD := Aside0.mk (drawn_trans HW.out hd); clear hd)
        go_roundw
        case measure => simp [intOf]; omega
        case rel => exact ⟨(a + b) / 2 + 1, b, by go_num, rfl, by omega, hb, HD, ⟨fun k hk => ord_lt HO.out (show k ≤ (a + b) / 2 by omega) (by omega) (by rw [← HXE.out]; exact HC.out)⟩, HH⟩
      · have HC := Aside0.mk (fun h => hc ((Pl.cmp_neg x t).2 h) : ¬ Pl.lt x t)
        go_wp2_with (go_at_call 83; refine (tuple_Compare_any _ _ x _ _ t _ HCX.out HTC.out).mono ?_; rintro e w' ⟨rfl, hd⟩; have HD := Aside0.mk (drawn_trans HW.out hd); clear hd)
        go_roundw
        case measure => simp [intOf]; omega
        case rel => exact ⟨a, (a + b) / 2, rfl, rfl, by omega, by omega, HD, HL, ⟨fun k hk hk' h => HC.out (by rw [HXE.out]; exact ord_lt HO.out hk hk' h)⟩⟩
    · have hae : a = b := by omega
      subst hae
      have HP := Aside0.mk (pos_of hb HL.out HH.out)
      have HM := Aside0.mk (mem_at HO.out HL.out HH.out)
      by_cases hlt2 : a < L.length
      · obtain ⟨ad, B, c, rfl, hx, hc, hcx⟩ := at_row HR0.out HW.out.below a (by omega)
        obtain ⟨x, hxe⟩ : ∃ x, x = L.getD a [] := ⟨_, rfl⟩
        rw [← hxe] at hx hcx hc
        have HXE := Aside0.mk hxe
        have HCX := Aside0.mk hcx
        have HTC := Aside0.mk (Kd.C_below HR1.out HW.out.below)
        have hai : (a : Int) < (L.length : Int) := by omega
        clear hxe hcx hc
        by_cases hz : Pl.cmp x t = 0
        · have hzb : (Pl.cmp x t == 0) = true := by simp [hz]
          have HZ := Aside0.mk hz
          clear hz
          go_wp2_with (go_at_call 83; refine (tuple_Compare_any _ _ x _ _ t _ HCX.out HTC.out).mono ?_; rintro e w' ⟨rfl, hd⟩; have HD := Aside0.mk (drawn_trans HW.out hd); clear hd)
          go_ret2
          exact ⟨by rw [HP.out, decide_eq_true (HM.out.2 ⟨hlt2, by rw [← HXE.out]; exact HZ.out⟩)]; rfl, HD.out⟩
        · have hzb : (Pl.cmp x t == 0) = false := by simp [hz]
          have HZ := Aside0.mk hz
          clear hz
          go_wp2_with (go_at_call 83; refine (tuple_Compare_any _ _ x _ _ t _ HCX.out HTC.out).mono ?_; rintro e w' ⟨rfl, hd⟩; have HD := Aside0.mk (drawn_trans HW.out hd); clear hd)
          go_ret2
          exact ⟨by rw [HP.out, decide_eq_false (fun h => HZ.out (by rw [HXE.out]; exact (HM.out.1 h).2))]; rfl, HD.out⟩
      · go_wp2
        go_ret2
        exact ⟨by rw [HP.out, decide_eq_false (fun h => hlt2 (HM.out.1 h).1)]; rfl, HW.out⟩

set_option maxHeartbeats 1000000 in
/-- tuple.Find: how many are less, and whether it is there. -/
theorem tuple_Find_any (A0 : Option Addr) (c0 : Nat) (L : List (List Int)) (A1 : Option Addr) (c1 : Nat) (t : List Int) (w : World) (hr0 : Kd.C KL w A0 L.length L) (hr1 : Kd.C KI w A1 t.length t) (hm : L.length ≤ 1000000000) (ho : Ord L) :
    Calls Tryz.prog 75 #[.slice A0 L.length c0, .slice A1 t.length c1] w fun e w' => e = .returned (.tuple #[.int .i64 (pos L t), .bool (decide (t ∈ L))]) ∧ Drawn0 w w' := by
  have hb := bsearch_any A0 c0 L A1 c1 t w hr0 hr1 hm ho
  clear hr0 hr1 ho
  go_enter Tryz.func75, Tryz.ntmps75
  go_wp2_with (go_at_call 99; refine hb.mono ?_; rintro e w' ⟨rfl, hd⟩)
  go_ret2
  exact ⟨rfl, hd⟩
end Go.Proofs.YtlmkgghpaaadhaaGreatDoor.G
