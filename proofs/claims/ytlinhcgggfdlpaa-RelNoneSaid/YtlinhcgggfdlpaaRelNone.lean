/- RelNone: the walk. -/
import Derived.Test.YtlinhcgggfdlpaaBox
set_option linter.unusedVariables false
set_option linter.unusedSimpArgs false
namespace Go.Proofs.Ytlinhcgggfdlpaa.G
open Go.RowKit Go.Proofs.YtlinhcgggfdlpaaW.PrintWords Go.Proofs.YtlinhcgggfdlpaaW.PrintLast Go.Proofs.YtlinhcgggfdlpaaW.PrintMore Go.Proofs.Ytlinhcgggfdlpaa.PRefs
attribute [local go_sem] min2_int min_two

/-- Projected, selected, told: without rows there are none. -/
theorem project_none (A0 : Option Addr) (c0 : Nat) (sc : List Int) (c1 : Nat) (A2 : Option Addr) (c2 : Nat) (vars : List Int) (w : World) (hr0 : Kd.C KI w A0 sc.length sc) (hl0 : sc.length ≤ c0) (hr2 : Kd.C KI w A2 vars.length vars) (hm0 : sc.length ≤ 1000) (hm2 : vars.length ≤ 400000000) :
    Calls Try.prog 25 #[.agg #[.slice A0 sc.length c0, .slice none 0 c1], .slice A2 vars.length c2] w fun e w' => ∃ s A c, e = .returned (.agg #[s, .slice A 0 c]) ∧ Below w.heap.size w w' := by
  refine (project_any A0 c0 sc none c1 [] A2 c2 vars w hr0 hl0 (Kd.C_nil _ _) hr2 (by omega) (by simp) hm2).mono ?_
  rintro e w' ⟨v, rfl, hv, hb⟩
  obtain ⟨A, c, A', c', rfl, _, _, hA, hA'⟩ := hv.reads
  exact ⟨.slice A (projRel sc [] vars).1.length c, A', c', by rw [show (projRel sc [] vars).2 = [] from by simp [projRel, cutRows, Pl.sortU]]; rfl, hb⟩
theorem select_none (A0 : Option Addr) (c0 : Nat) (sc : List Int) (c1 : Nat) (v value : Int) (w : World) (hr0 : Kd.C KI w A0 sc.length sc) (hm0 : sc.length ≤ 1000) :
    Calls Try.prog 26 #[.agg #[.slice A0 sc.length c0, .slice none 0 c1], .int .i64 v, .int .i64 value] w fun e w' => ∃ s A c, e = .returned (.agg #[s, .slice A 0 c]) ∧ Below w.heap.size w w' := by
  refine (select_any A0 c0 sc none c1 [] v value w hr0 (Kd.C_nil _ _) (by omega) (by simp) (by simp)).mono ?_
  rintro e w' ⟨u, rfl, hv, hb⟩
  obtain ⟨A, c, A', c', rfl, _, _, hA, hA'⟩ := hv.reads
  exact ⟨_, A', c', rfl, hb⟩
theorem vals_none (A0 : Option Addr) (c0 : Nat) (sc : List Int) (c1 : Nat) (v : Int) (w : World) (hr0 : Kd.C KI w A0 sc.length sc) (hl0 : sc.length ≤ c0) (hm0 : sc.length ≤ 1000) :
    Calls Try.prog 30 #[.agg #[.slice A0 sc.length c0, .slice none 0 c1], .int .i64 v] w fun e w' => ∃ A c, e = .returned (.slice A 0 c) ∧ Below w.heap.size w w' := by
  refine (vals_any A0 c0 sc none c1 [] v w hr0 hl0 (Kd.C_nil _ _) (by omega) (by simp)).mono ?_
  rintro e w' ⟨u, rfl, hv, hb⟩
  have hz : valsOf sc [] v = [] := by simp [valsOf, projRel, cutRows, Pl.sortU]
  rw [hz] at hv
  obtain ⟨A, c, rfl, _, _⟩ := Kd.R_reads hv
  exact ⟨A, c, rfl, hb⟩

set_option maxHeartbeats 1000000 in
set_option maxRecDepth 100000 in
theorem relnone_walk (A0 : Option Addr) (c0 : Nat) (sch : List Int) (A1 : Option Addr) (c1 : Nat) (rows : List (List Int)) (A2 : Option Addr) (c2 : Nat) (vars : List Int) (v value : Int) (w : World) (hr0 : Kd.C KI w A0 sch.length sch) (hc0 : sch.length ≤ c0) (hr1 : Kd.C KL w A1 rows.length rows) (hc1 : rows.length ≤ c1)
    (hr2 : Kd.C KI w A2 vars.length vars) (hc2 : vars.length ≤ c2) :
    Calls Try.prog 11 #[.slice A0 sch.length c0, .slice A1 rows.length c1, .slice A2 vars.length c2, .int .i64 v, .int .i64 value] w fun e w' => e = .returned (.bool true) ∧ Below w.heap.size w w' := by
  have HIN := Aside0.mk (And.intro hr0 (And.intro hr1 hr2))
  have hRN := right_none sch
  have HF := Aside0.mk (Small_f sch rows 4000 (Nat.le_refl _))
  have hS := smallS_len sch
  have hL20 : (smallRows (smallS sch).length rows).length ≤ 400000000 := by have := smallRows_len (smallS sch).length rows; omega
  have hLr : ∀ x ∈ smallRows (smallS sch).length rows, x.length ≤ 1000 := fun x hx => by rw [smallRows_row _ _ x hx]; omega
  have hU1 : Pl.sortU (smallRows (smallS sch).length rows ++ []) = smallRows (smallS sch).length rows := by rw [List.append_nil]; exact Pl.sortU_of_up (smallRows_up _ _)
  have hU2 : Pl.sortU ([] ++ smallRows (smallS sch).length rows) = smallRows (smallS sch).length rows := by rw [List.nil_append]; exact Pl.sortU_of_up (smallRows_up _ _)
  have hS4 : (smallS sch).length ≤ 1000 := by omega
  clear hr0 hr1 hr2 hS
  generalize smallRows (smallS sch).length rows = L at *
  generalize smallS sch = SC at *
  obtain ⟨hcut1, hcut2, hcut3⟩ := cut10 A2 c2 vars hc2
  have hV10 : (vars.take 10).length ≤ 10 := by simp; omega
  generalize vars.take 10 = V at *
  have hf1 := rel_field1
  go_enter Try.func11, Try.ntmps11
  go_wp2_with (first
    | (go_at_call 12; refine (shown_any _).mono ?_; rintro e w1 ⟨rfl, hb1⟩; have HB1 := Aside0.mk hb1; clear hb1)
    | (go_at_call 19; refine (arboristlaw02_Small.calls 4000 A0 c0 sch A1 c1 rows SC L w1 (Kd.C_below HIN.out.1 HB1.out) hc0 (Kd.C_below HIN.out.2.1 HB1.out) hc1 HF.out).mono ?_; rintro e w2 ⟨v0, v1, rfl, hR, hN, hb2⟩; obtain ⟨A3, c3, rfl, hl3, hr3⟩ := Kd.R_reads hR; obtain ⟨A4, c4, rfl, _, hr4⟩ := Kd.N_reads hN;
       have HS3 := Aside0.mk hl3; have Hr2 := Aside0.mk ((RelBox.new c3 c4 hr3 hr4).step (below_alloc (Below.refl _ _) (.cells #[.slice A3 SC.length c3, .slice none 0 0] 25))); have Hn2 := Aside0.mk (RelBox.new (w := w2.alloc (.cells #[.slice A3 SC.length c3, .slice A4 L.length c4] 25)) (A' := none) (L := []) c3 0 (Kd.C_below hr3 (below_alloc (Below.refl _ _) _)) (Kd.C_nil _ _));
       have HB2 := Aside0.mk (show Below w.heap.size w ((w2.alloc (.cells #[.slice A3 SC.length c3, .slice A4 L.length c4] 25)).alloc (.cells #[.slice A3 SC.length c3, .slice none 0 0] 25)) from below_then (below_then HB1.out HB1.out.size hb2) (below_then HB1.out HB1.out.size hb2).size (below_alloc (below_alloc (Below.refl _ _) _) _)); rw [World.size_alloc] at Hn2; have qr0_2 := blk2_c0 Hr2.out.blk; have qr1_2 := blk2_c1 Hr2.out.blk;have qn0_2 := blk2_c0 Hn2.out.blk; have qn1_2 := blk2_c1 Hn2.out.blk; clear hR hN hb2 hl3 hr3 hr4)
    | (go_at_call 21; refine (union_is A3 c3 SC A4 c4 L none c3 0 [] L _ Hr2.out.row Hr2.out.rows (Kd.C_nil _ _) hS4 hL20 (by simp) hLr (by simp) hU1).mono ?_; rintro e w3 ⟨A5, c5, A6, c6, rfl, hr5, hr6, hb3⟩;
       have Ha3 := Aside0.mk (RelBox.new c5 c6 hr5 hr6); have hb3' := hb3.trans (below_alloc (Below.refl _ _) (.cells #[.slice A5 SC.length c5, .slice A6 L.length c6] 25) |>.mono hb3.size); have Hr3 := Aside0.mk (Hr2.out.step hb3'); have Hn3 := Aside0.mk (Hn2.out.step hb3'); have HB3 := Aside0.mk (below_then HB2.out HB2.out.size hb3'); have qr0_3 := blk2_c0 Hr3.out.blk; have qr1_3 := blk2_c1 Hr3.out.blk;have qn0_3 := blk2_c0 Hn3.out.blk; have qn1_3 := blk2_c1 Hn3.out.blk; clear hr5 hr6 hb3 hb3' Hr2 Hn2)
    | (go_at_call 21; refine (union_is A3 c3 SC none 0 [] A4 c3 c4 L L _ Hr3.out.row (Kd.C_nil _ _) Hr3.out.rows hS4 (by simp) hL20 (by simp) hLr hU2).mono ?_; rintro e w4 ⟨A7, c7, A8, c8, rfl, hr7, hr8, hb4⟩;
       have Hb4 := Aside0.mk (RelBox.new c7 c8 hr7 hr8); have hb4' := hb4.trans (below_alloc (Below.refl _ _) (.cells #[.slice A7 SC.length c7, .slice A8 L.length c8] 25) |>.mono hb4.size); have Hr4 := Aside0.mk (Hr3.out.step hb4'); have Hn4 := Aside0.mk (Hn3.out.step hb4'); have Ha4 := Aside0.mk (Ha3.out.step hb4'); have HB4 := Aside0.mk (below_then HB3.out HB3.out.size hb4'); have qr0_4 := blk2_c0 Hr4.out.blk; have qr1_4 := blk2_c1 Hr4.out.blk;have qa0_4 := blk2_c0 Ha4.out.blk; have qa1_4 := blk2_c1 Ha4.out.blk; clear hr7 hr8 hb4 hb4' Hr3 Hn3 Ha3)
    | (go_at_call 20; refine (same_any A5 c5 SC A6 c6 L A3 c3 SC A4 c4 L _ Ha4.out.row Ha4.out.rows Hr4.out.row Hr4.out.rows (by omega) true (by simp)).mono ?_; rintro e w5 ⟨rfl, hb5⟩; have Hr5 := Aside0.mk (Hr4.out.step hb5); have Hn5 := Aside0.mk (Hn4.out.step hb5); have Hb5 := Aside0.mk (Hb4.out.step hb5); have HB5 := Aside0.mk (below_then HB4.out HB4.out.size hb5); have qr0_5 := blk2_c0 Hr5.out.blk; have qr1_5 := blk2_c1 Hr5.out.blk;have qb0_5 := blk2_c0 Hb5.out.blk; have qb1_5 := blk2_c1 Hb5.out.blk; clear hb5 Hr4 Hn4 Ha4 Hb4)
    | (go_at_call 20; refine (same_any A7 c7 SC A8 c8 L A3 c3 SC A4 c4 L _ Hb5.out.row Hb5.out.rows Hr5.out.row Hr5.out.rows (by omega) true (by simp)).mono ?_; rintro e w6 ⟨rfl, hb6⟩; have Hn6 := Aside0.mk (Hn5.out.step hb6); have HB6 := Aside0.mk (below_then HB5.out HB5.out.size hb6); have qn0_6 := blk2_c0 Hn6.out.blk; have qn1_6 := blk2_c1 Hn6.out.blk; clear hb6 Hr5 Hn5 Hb5)
    | (go_at_call 17; refine (right_is A3 c3 SC none 0 [] _ Hn6.out.row Hn6.out.rows (by simp) true (decide_eq_true hRN)).mono ?_; rintro e w7 ⟨rfl, hb7⟩; have Hn7 := Aside0.mk (Hn6.out.step hb7); have HB7 := Aside0.mk (below_then HB6.out HB6.out.size hb7); have qn0_7 := blk2_c0 Hn7.out.blk; have qn1_7 := blk2_c1 Hn7.out.blk; clear hb7 Hn6)
    | (go_at_call 25; refine (project_none A3 c3 SC 0 A2 c2 V _ Hn7.out.row HS3.out (Kd.C_below (hcut2 w HIN.out.2.2) HB7.out) hS4 (by omega)).mono ?_; rintro e w8 ⟨s8, A9, c9, rfl, hb8⟩; have Hn8 := Aside0.mk (Hn7.out.step hb8); have HB8 := Aside0.mk (below_then HB7.out HB7.out.size hb8); have qn0_8 := blk2_c0 Hn8.out.blk; have qn1_8 := blk2_c1 Hn8.out.blk; clear hb8 Hn7)
    | (go_at_call 26; refine (select_none A3 c3 SC 0 v value _ Hn8.out.row hS4).mono ?_; rintro e w9 ⟨s9, A10, c10, rfl, hb9⟩; have Hn9 := Aside0.mk (Hn8.out.step hb9); have HB9 := Aside0.mk (below_then HB8.out HB8.out.size hb9); have qn0_9 := blk2_c0 Hn9.out.blk; have qn1_9 := blk2_c1 Hn9.out.blk; clear hb9 Hn8)
    | (go_at_call 30; refine (vals_none A3 c3 SC 0 v _ Hn9.out.row HS3.out hS4).mono ?_; rintro e w10 ⟨A11, c11, rfl, hb10⟩; have Hn10 := Aside0.mk (Hn9.out.step hb10); have HB10 := Aside0.mk (below_then HB9.out HB9.out.size hb10); have qn0_10 := blk2_c0 Hn10.out.blk; have qn1_10 := blk2_c1 Hn10.out.blk; clear hb10 Hn9)
    | (go_at_call 24; refine (has_any A3 c3 SC none 0 [] A2 c2 V _ (Kd.C_nil _ _) (Kd.C_below (hcut2 w HIN.out.2.2) HB10.out) (by simp) List.Pairwise.nil).mono ?_; rintro e w11 ⟨rfl, hb11⟩; have HB11 := Aside0.mk (below_then HB10.out HB10.out.size hb11); clear hb11 Hn10))
  all_goals
    go_ret
    exact ⟨rfl, HB11.out⟩
end Go.Proofs.Ytlinhcgggfdlpaa.G
