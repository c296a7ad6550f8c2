/- rel.Project: a relation cut to some variables. -/
import Derived.Test.YtlinhcgggfdlpaaMake
import Derived.Test.YtlinhcgggfdlpaaValues
import Derived.Test.YtlinhcgggfdlpaaMerge
import Derived.Deep.RegionHeld3
set_option linter.unusedVariables false
set_option linter.unusedSimpArgs false
namespace Go.Proofs.Ytlinhcgggfdlpaa.G
open Go.RowKit Go.Proofs.YtlinhcgggfdlpaaW.PrintWords Go.Proofs.YtlinhcgggfdlpaaW.PrintLast Go.Proofs.YtlinhcgggfdlpaaW.PrintMore

def onto (sc vars : List Int) : List Int := merge false true false sc (uniqI vars)
def projRel (sc : List Int) (rows : List (List Int)) (vars : List Int) : List Int × List (List Int) := (onto sc vars, cutRows sc rows (onto sc vars))

theorem merge_len (f b s : Bool) (l m : List Int) : (merge f b s l m).length ≤ l.length + m.length := by
  induction l, m using merge.induct <;> unfold merge
  · simp
  · rename_i x l ih; simp only [List.length_append, List.length_cons]; split <;> simp <;> simp at ih <;> omega
  · rename_i y m ih; simp only [List.length_append, List.length_cons]; split <;> simp <;> simp at ih <;> omega
  · rename_i x l y m h ih; rw [if_pos h]; simp only [List.length_append, List.length_cons] at *; split <;> simp <;> omega
  · rename_i x l y m h h2 ih; rw [if_neg h, if_pos h2]; simp only [List.length_append, List.length_cons] at *; split <;> simp <;> omega
  · rename_i x l y m h h2 ih; rw [if_neg h, if_neg h2]; simp only [List.length_append, List.length_cons] at *; split <;> simp <;> omega

set_option maxHeartbeats 4000000 in
set_option maxRecDepth 100000 in
theorem project_any (A0 : Option Addr) (c0 : Nat) (sc : List Int) (A1 : Option Addr) (c1 : Nat) (rows : List (List Int)) (A2 : Option Addr) (c2 : Nat) (vars : List Int) (w : World) (hr0 : Kd.C KI w A0 sc.length sc) (hl0 : sc.length ≤ c0) (hr1 : Kd.C KL w A1 rows.length rows) (hr2 : Kd.C KI w A2 vars.length vars)
    (hm0 : sc.length ≤ 400000000) (hm1 : rows.length ≤ 1000000000) (hm2 : vars.length ≤ 400000000) :
    Calls Try.prog 25 #[.agg #[.slice A0 sc.length c0, .slice A1 rows.length c1], .slice A2 vars.length c2] w fun e w' => ∃ v, e = .returned v ∧ RelM w' w.heap.size v (projRel sc rows vars) ∧ Below w.heap.size w w' := by
  have HR := Aside0.mk (And.intro hr0 (And.intro hr1 hr2))
  clear hr0 hr1 hr2
  obtain ⟨W0, hW0⟩ : ∃ W0, (w.alloc (.cells #[.slice A0 sc.length c0, .slice A1 rows.length c1] 25)).alloc (.cells #[.slice none 0 0, .slice none 0 0] 25) = W0 := ⟨_, rfl⟩
  have hb0 : Below w.heap.size w W0 := by rw [← hW0]; exact below_alloc (below_alloc (Below.refl _ _) _) _
  have hX0 : W0.heap[w.heap.size + 1]? = some (.cells #[.slice none 0 0, .slice none 0 0] 25 (0, 0)) := by rw [← hW0]; have := heap_alloc_new (w.alloc (.cells #[.slice A0 sc.length c0, .slice A1 rows.length c1] 25)) (.cells #[.slice none 0 0, .slice none 0 0] 25); rwa [World.size_alloc] at this
  have hY0 : W0.heap[w.heap.size]? = some (.cells #[.slice A0 sc.length c0, .slice A1 rows.length c1] 25 (0, 0)) := by rw [← hW0]; exact (Below.heap_alloc _ _ _ (by simp)).trans (heap_alloc_new w _)
  have HL0 := Aside0.mk (And.intro hb0 (And.intro hX0 hY0))
  have hsz := (Array.getElem?_eq_some_iff.1 hX0).1
  clear hb0 hX0 hY0
  go_enter Try.func25, Try.ntmps25
  go_wp2_with (first
    | (go_at_call 35; refine (values_any _ ⟨_, _, _, rfl⟩ _).mono ?_; rintro e w1 ⟨rfl, hb1, hs1, hc1⟩; have HB1 := Aside0.mk hb1; have hso := sorted_values A2 c2 vars W0.heap.size w1 hs1 hc1 (Kd.C_below (Kd.C_below HR.out.2.2 HL0.out.1) hb1) (by omega); clear hb1 hs1 hc1)
    | (go_at_call 34; refine hso.mono ?_; rintro e w2 ⟨v2, rfl, hv2, hb2⟩; have hcomp := compactI_any w1.heap.size v2 (sortI vars) w2 hv2 (by rw [sortI_len]; omega); obtain ⟨A3, c3, rfl, _, _⟩ := Kd.R_reads hv2; have HB2 := Aside0.mk hb2; clear hso hv2 hb2)
    | (go_at_call 53; refine hcomp.mono ?_; rintro e w3 ⟨v3, rfl, hv3, hb3⟩; obtain ⟨A4, c4, rfl, hl4, hr4⟩ := Kd.R_reads hv3; have HV3 := Aside0.mk (And.intro hl4 hr4);
       have hb4 := below_then HB1.out HB1.out.size (HB2.out.trans hb3); have hy3 := (hb4.block _ (by omega)).trans HL0.out.2.2; have hx3 := (hb4.block _ hsz).trans HL0.out.2.1;
       have HL3 := Aside0.mk (And.intro (below_then HL0.out.1 HL0.out.1.size hb4) (And.intro hx3 hy3)); clear hcomp hv3 hb3 hl4 hr4 hb4 hx3 hy3))
  have q0 := blk2_c0 HL3.out.2.2
  have q1 := blk2_c1 HL3.out.2.2
  clear hW0 hsz HL0 HB1 HB2
  have hD := below_drew (Below.refl w3.heap.size w3)
  have HD3 := Aside0.mk (And.intro (below_drew HL3.out.1) (And.intro ((hD.block _ (Array.getElem?_eq_some_iff.1 HL3.out.2.1).1).trans HL3.out.2.1) ((hD.block _ (Array.getElem?_eq_some_iff.1 HL3.out.2.2).1).trans HL3.out.2.2)))
  have HVD := Aside0.mk (And.intro HV3.out.1 (Kd.C_below HV3.out.2 hD))
  have hul := uniqI_len vars
  have hol : (onto sc vars).length ≤ 1000000000 := by have := merge_len false true false sc (uniqI vars); unfold onto; omega
  clear hD
  go_region_held3 (fun W => W.cell? ⟨w.heap.size, 0, none⟩ = some (.slice A0 sc.length c0) ∧ W.cell? ⟨w.heap.size, 1, none⟩ = some (.slice A1 rows.length c1)) (first | exact ⟨q2, q3⟩ | exact ⟨q4, q5⟩ | exact ⟨q6, q7⟩ | go_keep) (first
    | (go_at_call 54; refine (tuple_Meet_any A0 c0 sc A4 c4 (uniqI vars) _ (Kd.C_below HR.out.1 HD3.out.1) hl0 HVD.out.2 HVD.out.1 (by omega)).mono ?_; rintro e w4 ⟨v4, rfl, hv4, hb4⟩; obtain ⟨A5, c5, rfl, hl5, hr5⟩ := Kd.R_reads hv4; have hx4 := (hb4.block _ (Array.getElem?_eq_some_iff.1 HD3.out.2.1).1).trans HD3.out.2.1; have hy4 := (hb4.block _ (Array.getElem?_eq_some_iff.1 HD3.out.2.2).1).trans HD3.out.2.2;
       have HL4 := Aside0.mk (And.intro (below_then HD3.out.1 HD3.out.1.size hb4) (And.intro hx4 (And.intro hy4 hr5))); have q2 := blk2_c0 hy4; have q3 := blk2_c1 hy4; clear hv4 hb4 hl5 hr5 hx4 hy4)
    | (go_at_call 39; refine (cut_any A0 c0 sc A1 c1 rows A5 c5 (onto sc vars) _ (Kd.C_below HR.out.1 HL4.out.1) (Kd.C_below HR.out.2.1 HL4.out.1) HL4.out.2.2.2 hm1 hol).mono ?_; rintro e w5 ⟨v5, rfl, hv5, hb5⟩; have hx5 := (hb5.block _ (Array.getElem?_eq_some_iff.1 HL4.out.2.1).1).trans HL4.out.2.1; have hy5 := (hb5.block _ (Array.getElem?_eq_some_iff.1 HL4.out.2.2.1).1).trans HL4.out.2.2.1; have q4 := blk2_c0 hy5; have q5 := blk2_c1 hy5;
       obtain ⟨s0, s1, rfl, h0, h1⟩ := hv5; obtain ⟨A6, c6, rfl, _, _⟩ := Kd.R_reads h0; obtain ⟨A7, c7, rfl, _, _⟩ := Kd.N_reads h1; have HM := Aside0.mk (show RelM w5 w4.heap.size (.agg #[.slice A6 _ c6, .slice A7 _ c7]) (projRel sc rows vars) from ⟨_, _, rfl, h0, h1⟩);
       have p0 := blk2_c0 hx5; have p1 := blk_fr (i := 0) hx5; have hs0 := blk2_s0 hx5 (.slice A6 (onto sc vars).length c6); have p2 := blk2_c1 hs0; have p3 := blk_fr (i := 1) hs0; have hs1 := blk2_s1 hs0 (.slice A7 (cutRows sc rows (onto sc vars)).length c7);
       have hu0 := (Below.heap_setCell w5 ⟨w.heap.size + 1, 0, none⟩ (.slice A6 (onto sc vars).length c6) w.heap.size (by simp)).trans hy5; have hu1 := (Below.heap_setCell _ ⟨w.heap.size + 1, 1, none⟩ (.slice A7 (cutRows sc rows (onto sc vars)).length c7) w.heap.size (by simp)).trans hu0; have q6 := blk2_c0 hu1; have q7 := blk2_c1 hu1;
       have HS1 := Aside0.mk hs1; have HB5 := Aside0.mk hb5; clear hs0 hs1 hb5 hx5 hy5 h0 h1 hu0 hu1))
  have q8 := blk2_c0 HS1.out
  have q9 := blk2_c1 HS1.out
  go_wp2
  refine bodyPost_ret (v := .agg #[.slice A6 (onto sc vars).length c6, .slice A7 (cutRows sc rows (onto sc vars)).length c7]) (by simp [results, Try.results25, go_sem, q8, q9]) rfl ?_
  have hlt : w.heap.size + 1 < w4.heap.size := (Array.getElem?_eq_some_iff.1 HL4.out.2.1).1
  refine ⟨_, rfl, RelM.lower (((HM.out.far (p := ⟨w.heap.size + 1, 0, none⟩) hlt _).far (p := ⟨w.heap.size + 1, 1, none⟩) hlt _)) (by omega), ?_⟩
  have h1 := below_then HL4.out.1 HL4.out.1.size HB5.out
  exact (h1.setCell (p := ⟨w.heap.size + 1, 0, none⟩) (Nat.le_succ _) _).setCell (p := ⟨w.heap.size + 1, 1, none⟩) (Nat.le_succ _) _
end Go.Proofs.Ytlinhcgggfdlpaa.G
