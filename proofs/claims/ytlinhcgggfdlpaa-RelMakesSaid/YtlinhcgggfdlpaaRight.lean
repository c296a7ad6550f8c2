/- rel.Right, rel.Unit. -/
import Derived.Test.YtlinhcgggfdlpaaSame
set_option linter.unusedVariables false
set_option linter.unusedSimpArgs false
namespace Go.Proofs.Ytlinhcgggfdlpaa.G
open Go.RowKit Go.Proofs.YtlinhcgggfdlpaaW.PrintWords Go.Proofs.YtlinhcgggfdlpaaW.PrintLast Go.Proofs.YtlinhcgggfdlpaaW.PrintMore

theorem up_take_succ (L : List (List Int)) (k : Nat) (h : k < L.length) : Pl.Up (L.take (k + 1)) ↔ Pl.Up (L.take k) ∧ (k = 0 ∨ Pl.lt (L.getD (k - 1) []) (L.getD k [])) := by
  rw [List.take_succ_eq_append_getElem h, Pl.Up, List.pairwise_append]
  rw [getD_get _ _ h]
  constructor
  · rintro ⟨h1, _, h2⟩
    refine ⟨h1, ?_⟩
    rcases Nat.eq_zero_or_pos k with h0 | h0
    · exact .inl h0
    · refine .inr (h2 _ ?_ _ (List.mem_singleton.2 rfl))
      rw [getD_get _ _ (by omega)]
      exact List.mem_take_iff_getElem.2 ⟨k - 1, by omega, rfl⟩
  · rintro ⟨h1, h2⟩
    refine ⟨h1, List.pairwise_singleton _ _, fun y hy z hz => ?_⟩
    rw [List.mem_singleton.1 hz]
    obtain ⟨j, hj, rfl⟩ := List.mem_take_iff_getElem.1 hy
    have hj' : j < k := by omega
    rcases h2 with h2 | h2
    · omega
    · rw [getD_get _ _ (by omega)] at h2
      by_cases e : j = k - 1
      · subst e; exact h2
      · have := List.pairwise_iff_getElem.1 h1 j (k - 1) (by simp; omega) (by simp; omega) (by omega)
        simp only [List.getElem_take] at this
        exact Pl.lt_trans this h2

/-- A relation is right. -/
def RightP (sc : List Int) (rows : List (List Int)) : Prop := (Rise sc ∧ ¬ (0 < sc.length ∧ rd sc 0 < 0)) ∧ (∀ t ∈ rows, t.length = sc.length) ∧ Pl.Up rows
instance (sc : List Int) (rows : List (List Int)) : Decidable (RightP sc rows) := by unfold RightP Pl.Up Pl.lt; infer_instance

theorem right_take_succ (sc : List Int) (L : List (List Int)) (k : Nat) (h : k < L.length) : ((∀ t ∈ L.take (k + 1), t.length = sc.length) ∧ Pl.Up (L.take (k + 1))) ↔ ((∀ t ∈ L.take k, t.length = sc.length) ∧ Pl.Up (L.take k)) ∧ (L.getD k []).length = sc.length ∧ (k = 0 ∨ Pl.lt (L.getD (k - 1) []) (L.getD k [])) := by
  rw [up_take_succ L k h]
  have h1 : (∀ t ∈ L.take (k + 1), t.length = sc.length) ↔ (∀ t ∈ L.take k, t.length = sc.length) ∧ (L.getD k []).length = sc.length := by
    rw [List.take_succ_eq_append_getElem h, getD_get _ _ h]
    simp only [List.mem_append, List.mem_singleton]
    exact ⟨fun h => ⟨fun t ht => h t (.inl ht), h _ (.inr rfl)⟩, fun ⟨h1, h2⟩ t ht => ht.elim (h1 t) (fun e => e ▸ h2)⟩
  rw [h1]
  exact ⟨fun ⟨⟨a, b⟩, c, d⟩ => ⟨⟨a, c⟩, b, d⟩, fun ⟨⟨a, c⟩, b, d⟩ => ⟨⟨a, b⟩, c, d⟩⟩
theorem right_no (sc : List Int) (L : List (List Int)) (k : Nat) (h : ¬ ((∀ t ∈ L.take k, t.length = sc.length) ∧ Pl.Up (L.take k))) : ¬ RightP sc L := fun hr =>
  h ⟨fun t ht => hr.2.1 t (List.mem_of_mem_take ht), hr.2.2.sublist (List.take_sublist _ _)⟩

set_option maxHeartbeats 4000000 in
set_option maxRecDepth 100000 in
theorem right_any (A0 : Option Addr) (c0 : Nat) (sc : List Int) (A1 : Option Addr) (c1 : Nat) (rows : List (List Int)) (w : World) (hr0 : Kd.C KI w A0 sc.length sc) (hr1 : Kd.C KL w A1 rows.length rows) (hm : rows.length ≤ 1000000000) :
    Calls Try.prog 17 #[.agg #[.slice A0 sc.length c0, .slice A1 rows.length c1]] w fun e w' => e = .returned (.bool (decide (RightP sc rows))) ∧ Below w.heap.size w w' := by
  have HR := Aside0.mk (And.intro hr0 hr1)
  clear hr0 hr1
  obtain ⟨W0, hW0⟩ : ∃ W0, w.alloc (.cells #[.slice A0 sc.length c0, .slice A1 rows.length c1] 25) = W0 := ⟨_, rfl⟩
  have hb0 : Below w.heap.size w W0 := by rw [← hW0]; exact below_alloc (Below.refl _ _) _
  have hX0 : W0.heap[w.heap.size]? = some (.cells #[.slice A0 sc.length c0, .slice A1 rows.length c1] 25 (0, 0)) := by rw [← hW0]; exact heap_alloc_new w _
  have HL0 := Aside0.mk (And.intro hb0 hX0)
  have q0 := blk2_c0 hX0
  have hsz := (Array.getElem?_eq_some_iff.1 hX0).1
  clear hb0 hX0
  go_enter Try.func17, Try.ntmps17
  by_cases hR : Rise sc
  · by_cases hN : 0 < sc.length ∧ rd sc 0 < 0
    · have hno := Aside0.mk (decide_eq_false (show ¬ RightP sc rows from fun h => h.1.2 hN))
      obtain ⟨hP, hN⟩ := hN
      have hpi : (0 : Int) < (sc.length : Int) := by omega
      obtain ⟨ad, rfl, hx⟩ := at_int' HR.out.1 HL0.out.1 0 (by omega) (by omega)
      simp only [Int.toNat_zero, Addr.add_zero'] at hx
      have hcl := tuple_Rising_any (some ad) c0 sc W0 (Kd.C_below HR.out.1 HL0.out.1)
      rw [decide_eq_true hR] at hcl
      have HX := Aside0.mk hx
      clear hx hR
      go_wp2_with (go_at_call 38; refine hcl.mono ?_; rintro e w1 ⟨rfl, hd⟩; have hbl := hd.below; have hx1 := (hbl.block _ hsz).trans HL0.out.2; have q4 := blk2_c0 hx1; have q5 := (hbl.cell (World.block_lt_of_cell? _ _ HX.out)).trans HX.out; have HD := Aside0.mk (below_then HL0.out.1 HL0.out.1.size hbl); clear hd hbl hx1 hcl)
      go_ret
      exact ⟨by rw [hno.out]; rfl, HD.out⟩
    · have HN := Aside0.mk hN
      have HRR := Aside0.mk hR
      have hcl := tuple_Rising_any A0 c0 sc W0 (Kd.C_below HR.out.1 HL0.out.1)
      rw [decide_eq_true hR] at hcl
      clear hR
      rcases Nat.eq_zero_or_pos sc.length with hP | hP
      · have hpd : decide ((0 : Int) < (sc.length : Int)) = false := decide_eq_false (by omega)
        have hpe : decide (0 < sc.length) = false := decide_eq_false (by omega)
        clear hN hP
        go_wp2_with (go_at_call 38; refine hcl.mono ?_; rintro e w1 ⟨rfl, hd⟩; have hbl := hd.below; have hx1 := (hbl.block _ hsz).trans HL0.out.2; have q4 := blk2_c0 hx1; have q5 := blk2_c1 hx1; have HD := Aside0.mk hd; clear hd hbl hx1 hcl)
        go_loopw [25] (fun i W => ∃ k : Nat, k ≤ rows.length ∧ i = .int .i64 k ∧ Aside0 (Drawn0 W0 W ∧ ((∀ t ∈ rows.take k, t.length = sc.length) ∧ Pl.Up (rows.take k)))) (fun i _ => rows.length - (intOf i).toNat)
        case atStart => exact ⟨0, Nat.zero_le _, rfl, ⟨HD.out, by simp, by simp [Pl.Up]⟩⟩
        case round =>
          obtain ⟨k, hk, rfl, HE⟩ := hrel
          have hbW := below_then HL0.out.1 HL0.out.1.size HE.out.1.below
          have hxW := (HE.out.1.below.block _ hsz).trans HL0.out.2
          have q6 := blk2_c0 hxW
          have q7 := blk2_c1 hxW
          by_cases hlt : k < rows.length
          · obtain ⟨ad, B0, d0, rfl, hx0, _, hc0⟩ := at_row HR.out.2 hbW k hlt
            have hkl : (k : Int) < (rows.length : Int) := by omega
            have HS := Aside0.mk (right_take_succ sc rows k hlt)
            obtain ⟨x, hxe⟩ : ∃ x, x = rows.getD k [] := ⟨_, rfl⟩
            rw [← hxe] at hx0 HS hc0
            have HC := Aside0.mk hc0
            have HXE := Aside0.mk hxe
            clear hxe hc0
            by_cases hn : x.length = sc.length
            · have n0 : (((x.length : Int)) == (sc.length : Int)) = true := by rw [beq_iff_eq]; omega
              have n1 : ((x.length : Int)) = (sc.length : Int) := by omega
              have HNL := Aside0.mk hn
              clear hn
              rcases Nat.eq_zero_or_pos k with hk0 | hk0
              · subst hk0; rw [Addr.add_zero'] at hx0
                have HB := Aside0.mk hbW
                clear hbW hxW
                go_wp2
                go_roundw
                case rel => exact ⟨1, by omega, by go_num, ⟨HE.out.1, HS.out.2 ⟨HE.out.2, HNL.out, .inl rfl⟩⟩⟩
                case measure => simp [intOf]; omega
              · obtain ⟨jp, rfl⟩ : ∃ jp, k = jp + 1 := ⟨k - 1, by omega⟩
                obtain ⟨ad', B1, d1, ea, hy0, _, hcy⟩ := at_row HR.out.2 hbW jp (by omega)
                injection ea with ea
                subst ea
                rw [Addr.add_succ'] at hx0
                have i0 : (0 : Int) < (jp : Int) + 1 := by omega
                have i1 : 0 ≤ (jp : Int) + 1 := by omega
                have i2 : (jp : Int) + 1 < (rows.length : Int) := by omega
                have i3 : ((jp : Int) + 1).toNat = jp + 1 := by omega
                have i4 : IntKind.i64.wrap (jp : Int) = jp := IntWalk.i64_in _ (by omega)
                have i5 : (jp : Int) < (rows.length : Int) := by omega
                obtain ⟨y, hye⟩ : ∃ y, y = rows.getD jp [] := ⟨_, rfl⟩
                rw [← hye] at hy0 hcy
                have HYE := Aside0.mk hye
                have hcl := tuple_Compare_any B1 d1 y B0 d0 x wr hcy HC.out
                have HB := Aside0.mk hbW
                clear hbW hxW hye hcy
                by_cases hl : Pl.lt y x
                · have g0 : decide (0 ≤ Pl.cmp y x) = false := decide_eq_false (by have := (Pl.cmp_neg y x).2 hl; omega)
                  have g1 : ¬ (0 ≤ Pl.cmp y x) := by have := (Pl.cmp_neg y x).2 hl; omega
                  have g2 : Pl.cmp y x < 0 := by omega
                  have HLT := Aside0.mk hl
                  clear hl
                  go_wp2_with (go_at_call 43; refine hcl.mono ?_; rintro e w' ⟨rfl, hd⟩; have HD2 := Aside0.mk (drawn_trans HE.out.1 hd); clear hd)
                  go_roundw
                  case rel => exact ⟨jp + 2, by omega, by go_num, ⟨HD2.out, HS.out.2 ⟨HE.out.2, HNL.out, .inr (by rw [Nat.add_sub_cancel, ← HYE.out]; exact HLT.out)⟩⟩⟩
                  case measure => simp [intOf]; omega
                · have g0 : decide (0 ≤ Pl.cmp y x) = true := decide_eq_true (by have := (Pl.cmp_ge y x).2 hl; omega)
                  have g1 : 0 ≤ Pl.cmp y x := (Pl.cmp_ge y x).2 hl
                  have HLT := Aside0.mk hl
                  clear hl
                  go_wp2_with (go_at_call 43; refine hcl.mono ?_; rintro e w' ⟨rfl, hd⟩; have HD2 := Aside0.mk (drawn_trans HE.out.1 hd); clear hd)
                  go_ret
                  refine ⟨?_, below_then HL0.out.1 HL0.out.1.size HD2.out.below⟩
                  rw [decide_eq_false (show ¬ RightP sc rows from right_no sc rows (jp + 1 + 1) (fun h => by
                    rcases (HS.out.1 h).2.2 with e | e
                    · omega
                    · exact HLT.out (by rw [Nat.add_sub_cancel, ← HYE.out] at e; exact e)))]
                  rfl
            · have n0 : (((x.length : Int)) == (sc.length : Int)) = false := by rw [beq_eq_false_iff_ne]; omega
              have n1 : ¬ ((x.length : Int)) = (sc.length : Int) := by omega
              have HNL := Aside0.mk hn
              clear hn
              have HB := Aside0.mk hbW
              clear hbW hxW
              go_wp2
              go_ret
              refine ⟨?_, HB.out⟩
              rw [decide_eq_false (show ¬ RightP sc rows from right_no sc rows (k + 1) (fun h => HNL.out (HS.out.1 h).2.1))]
              rfl
          · have hke : k = rows.length := by omega
            subst hke
            have HB := Aside0.mk hbW
            clear hbW hxW
            go_wp2
            go_ret
            refine ⟨?_, HB.out⟩
            rw [decide_eq_true (show RightP sc rows from ⟨⟨HRR.out, HN.out⟩, by have := HE.out.2; rwa [List.take_length] at this⟩)]
            rfl
      · by_cases hneg : rd sc 0 < 0
        · exact absurd ⟨hP, hneg⟩ hN
        · obtain ⟨ad, rfl, hx⟩ := at_int' HR.out.1 HL0.out.1 0 (by omega) (by omega)
          simp only [Int.toNat_zero, Addr.add_zero'] at hx
          have HX := Aside0.mk hx
          have hpi : (0 : Int) < (sc.length : Int) := by omega
          have hnd : decide (rd sc 0 < 0) = false := decide_eq_false hneg
          clear hx hN
          go_wp2_with (go_at_call 38; refine hcl.mono ?_; rintro e w1 ⟨rfl, hd⟩; have hbl := hd.below; have hx1 := (hbl.block _ hsz).trans HL0.out.2; have q4 := blk2_c0 hx1; have q8 := blk2_c1 hx1; have q5 := (hbl.cell (World.block_lt_of_cell? _ _ HX.out)).trans HX.out; have HD := Aside0.mk hd; clear hd hbl hx1 hcl)
          clear q5
          go_loopw [25] (fun i W => ∃ k : Nat, k ≤ rows.length ∧ i = .int .i64 k ∧ Aside0 (Drawn0 W0 W ∧ ((∀ t ∈ rows.take k, t.length = sc.length) ∧ Pl.Up (rows.take k)))) (fun i _ => rows.length - (intOf i).toNat)
          case atStart => exact ⟨0, Nat.zero_le _, rfl, ⟨HD.out, by simp, by simp [Pl.Up]⟩⟩
          case round =>
            obtain ⟨k, hk, rfl, HE⟩ := hrel
            have hbW := below_then HL0.out.1 HL0.out.1.size HE.out.1.below
            have hxW := (HE.out.1.below.block _ hsz).trans HL0.out.2
            have q6 := blk2_c0 hxW
            have q7 := blk2_c1 hxW
            by_cases hlt : k < rows.length
            · obtain ⟨ad2, B0, d0, rfl, hx0, _, hc0⟩ := at_row HR.out.2 hbW k hlt
              have hkl : (k : Int) < (rows.length : Int) := by omega
              have HS := Aside0.mk (right_take_succ sc rows k hlt)
              obtain ⟨x, hxe⟩ : ∃ x, x = rows.getD k [] := ⟨_, rfl⟩
              rw [← hxe] at hx0 HS hc0
              have HC := Aside0.mk hc0
              have HXE := Aside0.mk hxe
              clear hxe hc0
              by_cases hn : x.length = sc.length
              · have n0 : (((x.length : Int)) == (sc.length : Int)) = true := by rw [beq_iff_eq]; omega
                have n1 : ((x.length : Int)) = (sc.length : Int) := by omega
                have HNL := Aside0.mk hn
                clear hn
                rcases Nat.eq_zero_or_pos k with hk0 | hk0
                · subst hk0; rw [Addr.add_zero'] at hx0
                  have HB := Aside0.mk hbW
                  clear hbW hxW
                  go_wp2
                  go_roundw
                  case rel => exact ⟨1, by omega, by go_num, ⟨HE.out.1, HS.out.2 ⟨HE.out.2, HNL.out, .inl rfl⟩⟩⟩
                  case measure => simp [intOf]; omega
                · obtain ⟨jp, rfl⟩ : ∃ jp, k = jp + 1 := ⟨k - 1, by omega⟩
                  obtain ⟨ad', B1, d1, ea, hy0, _, hcy⟩ := at_row HR.out.2 hbW jp (by omega)
                  injection ea with ea
                  subst ea
                  rw [Addr.add_succ'] at hx0
                  have i0 : (0 : Int) < (jp : Int) + 1 := by omega
                  have i1 : 0 ≤ (jp : Int) + 1 := by omega
                  have i2 : (jp : Int) + 1 < (rows.length : Int) := by omega
                  have i3 : ((jp : Int) + 1).toNat = jp + 1 := by omega
                  have i4 : IntKind.i64.wrap (jp : Int) = jp := IntWalk.i64_in _ (by omega)
                  have i5 : (jp : Int) < (rows.length : Int) := by omega
                  obtain ⟨y, hye⟩ : ∃ y, y = rows.getD jp [] := ⟨_, rfl⟩
                  rw [← hye] at hy0 hcy
                  have HYE := Aside0.mk hye
                  have hcl := tuple_Compare_any B1 d1 y B0 d0 x wr hcy HC.out
                  have HB := Aside0.mk hbW
                  clear hbW hxW hye hcy
                  by_cases hl : Pl.lt y x
                  · have g0 : decide (0 ≤ Pl.cmp y x) = false := decide_eq_false (by have := (Pl.cmp_neg y x).2 hl; omega)
                    have g1 : ¬ (0 ≤ Pl.cmp y x) := by have := (Pl.cmp_neg y x).2 hl; omega
                    have g2 : Pl.cmp y x < 0 := by omega
                    have HLT := Aside0.mk hl
                    clear hl
                    go_wp2_with (go_at_call 43; refine hcl.mono ?_; rintro e w' ⟨rfl, hd⟩; have HD2 := Aside0.mk (drawn_trans HE.out.1 hd); clear hd)
                    go_roundw
                    case rel => exact ⟨jp + 2, by omega, by go_num, ⟨HD2.out, HS.out.2 ⟨HE.out.2, HNL.out, .inr (by rw [Nat.add_sub_cancel, ← HYE.out]; exact HLT.out)⟩⟩⟩
                    case measure => simp [intOf]; omega
                  · have g0 : decide (0 ≤ Pl.cmp y x) = true := decide_eq_true (by have := (Pl.cmp_ge y x).2 hl; omega)
                    have g1 : 0 ≤ Pl.cmp y x := (Pl.cmp_ge y x).2 hl
                    have HLT := Aside0.mk hl
                    clear hl
                    go_wp2_with (go_at_call 43; refine hcl.mono ?_; rintro e w' ⟨rfl, hd⟩; have HD2 := Aside0.mk (drawn_trans HE.out.1 hd); clear hd)
                    go_ret
                    refine ⟨?_, below_then HL0.out.1 HL0.out.1.size HD2.out.below⟩
                    rw [decide_eq_false (show ¬ RightP sc rows from right_no sc rows (jp + 1 + 1) (fun h => by
                      rcases (HS.out.1 h).2.2 with e | e
                      · omega
                      · exact HLT.out (by rw [Nat.add_sub_cancel, ← HYE.out] at e; exact e)))]
                    rfl
              · have n0 : (((x.length : Int)) == (sc.length : Int)) = false := by rw [beq_eq_false_iff_ne]; omega
                have n1 : ¬ ((x.length : Int)) = (sc.length : Int) := by omega
                have HNL := Aside0.mk hn
                clear hn
                have HB := Aside0.mk hbW
                clear hbW hxW
                go_wp2
                go_ret
                refine ⟨?_, HB.out⟩
                rw [decide_eq_false (show ¬ RightP sc rows from right_no sc rows (k + 1) (fun h => HNL.out (HS.out.1 h).2.1))]
                rfl
            · have hke : k = rows.length := by omega
              subst hke
              have HB := Aside0.mk hbW
              clear hbW hxW
              go_wp2
              go_ret
              refine ⟨?_, HB.out⟩
              rw [decide_eq_true (show RightP sc rows from ⟨⟨HRR.out, HN.out⟩, by have := HE.out.2; rwa [List.take_length] at this⟩)]
              rfl
  · have hno := Aside0.mk (decide_eq_false (show ¬ RightP sc rows from fun h => hR h.1.1))
    have hcl := tuple_Rising_any A0 c0 sc W0 (Kd.C_below HR.out.1 HL0.out.1)
    rw [decide_eq_false hR] at hcl
    clear hR
    go_wp2_with (go_at_call 38; refine hcl.mono ?_; rintro e w1 ⟨rfl, hd⟩; have HD := Aside0.mk (below_then HL0.out.1 HL0.out.1.size hd.below); clear hd hcl)
    go_ret
    exact ⟨by rw [hno.out]; rfl, HD.out⟩
end Go.Proofs.Ytlinhcgggfdlpaa.G
