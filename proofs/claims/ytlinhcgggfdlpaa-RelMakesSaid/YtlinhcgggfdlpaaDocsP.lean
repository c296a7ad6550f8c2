/- The document's answer for layer 2, as the print tells it: Place, Pick, Cut, Meet, Project. -/
import Derived.Test.YtlinhcgggfdlpaaPRefsx7
import Derived.Test.YtlinhcgggfdlpaaDocs
set_option linter.unusedVariables false
set_option linter.unusedSimpArgs false
namespace Go.Proofs.Ytlinhcgggfdlpaa.G
open Go.RowKit Go.Proofs.YtlinhcgggfdlpaaW.PrintWords Go.Proofs.YtlinhcgggfdlpaaW.PrintLast Go.Proofs.YtlinhcgggfdlpaaW.PrintMore Go.Proofs.Ytlinhcgggfdlpaa.PRefs

theorem Place_l0 (x0 : List Int) (x1 : Int) (hl : x0.length ≤ 1000000000) : ∀ n i k, i + n = x0.length → n < k → arboristref02_Place.l0 k x0 x1 (i : Int) = some (if x1 ∈ x0.drop i then ((i + (x0.drop i).idxOf x1 : Nat) : Int) else -1)
  | n, i, 0, _, h => by omega
  | 0, i, k + 1, h, _ => by
    unfold arboristref02_Place.l0
    rw [if_neg (by omega), List.drop_of_length_le (by omega)]; simp
  | n + 1, i, k + 1, h, hk => by
    unfold arboristref02_Place.l0
    rw [if_pos (by omega), if_pos (by omega), drop_rd x0 i (by omega)]
    by_cases he : rd x0 (i : Int) = x1
    · rw [if_pos he, he, if_pos List.mem_cons_self, List.idxOf_cons_self]; rfl
    · rw [if_neg he, w1 i (by omega), Place_l0 x0 x1 hl n (i + 1) k (by omega) (by omega)]
      congr 1
      by_cases hm : x1 ∈ x0.drop (i + 1)
      · rw [if_pos hm, if_pos (List.mem_cons_of_mem _ hm), List.idxOf_cons, show (rd x0 (i : Int) == x1) = false from beq_eq_false_iff_ne.2 he]
        show ((i + 1 + List.idxOf x1 (List.drop (i + 1) x0) : Nat) : Int) = ((i + (List.idxOf x1 (List.drop (i + 1) x0) + 1) : Nat) : Int)
        omega
      · rw [if_neg hm, if_neg (fun h => (List.mem_cons.1 h).elim (fun e => he e.symm) hm)]
theorem Place_f (l : List Int) (a : Int) (k : Nat) (hl : l.length ≤ 1000000000) (hk : l.length < k) : arboristref02_Place.f k l a = some (idx l a) := by
  unfold arboristref02_Place.f
  have := Place_l0 l a hl l.length 0 k (by omega) hk
  simpa [idx] using this

theorem pick_cons (t : List Int) (p : Int) (ps : List Int) : pick t (p :: ps) = if 0 ≤ p ∧ p < (t.length : Int) then rd t p :: pick t ps else pick t ps := by
  unfold pick
  by_cases h : 0 ≤ p ∧ p < (t.length : Int)
  · rw [List.filterMap_cons_some (b := rd t p) (by rw [if_pos h]), if_pos h]
  · rw [List.filterMap_cons_none (by rw [if_neg h]), if_neg h]
theorem PickR_l0 (x0 x1 : List Int) (hl : x1.length ≤ 1000000000) : ∀ n i k (x5 : List Int), i + n = x1.length → n < k → x5.length ≤ i → arboristref01_Pick.l0 k x0 x1 x5 (i : Int) = some (x5 ++ pick x0 (x1.drop i))
  | n, i, 0, _, _, h, _ => by omega
  | 0, i, k + 1, x5, h, _, _ => by
    unfold arboristref01_Pick.l0
    rw [if_neg (by omega), List.drop_of_length_le (by omega)]; simp [pick]
  | n + 1, i, k + 1, x5, h, hk, h5 => by
    unfold arboristref01_Pick.l0
    rw [if_pos (by omega), if_pos (by omega), drop_rd x1 i (by omega), pick_cons, w1 i (by omega)]
    by_cases h0 : rd x1 (i : Int) ≥ 0
    · rw [if_pos h0]
      by_cases h1 : rd x1 (i : Int) < (x0.length : Int)
      · rw [if_pos h1, if_pos (by omega), if_pos (by omega), if_pos ⟨by omega, h1⟩, PickR_l0 x0 x1 hl n (i + 1) k _ (by omega) (by omega) (by simp; omega)]
        simp
      · rw [if_neg h1, if_neg (fun h => h1 h.2), PickR_l0 x0 x1 hl n (i + 1) k _ (by omega) (by omega) (by omega)]
    · rw [if_neg h0, if_neg (fun h => h0 (by omega)), PickR_l0 x0 x1 hl n (i + 1) k _ (by omega) (by omega) (by omega)]
theorem PickR_f (l m : List Int) (k : Nat) (hm : m.length ≤ 1000000000) (hk : m.length < k) : arboristref01_Pick.f k l m = some (pick l m) := by
  unfold arboristref01_Pick.f
  have := PickR_l0 l m hm m.length 0 k [] (by omega) hk (by simp)
  simpa using this

theorem pick_len (t ps : List Int) : (pick t ps).length ≤ ps.length := List.length_filterMap_le _ _
theorem Cut_l1 (x1 : List (List Int)) (x7 : List Int) (hl : x1.length ≤ 1000) (h7 : x7.length ≤ 1000) : ∀ n i k (x9 : List (List Int)), i + n = x1.length → n + 5000000 ≤ k → x9.length ≤ i → (∀ x ∈ x9, x.length ≤ 1000) → arboristref02_Cut.l1 k x1 x7 x9 (i : Int) = some (Pl.sortU (x9 ++ (x1.drop i).map fun t => pick t x7))
  | n, i, 0, _, _, h, _, _ => by omega
  | 0, i, k + 1, x9, h, _, h9, hx => by
    unfold arboristref02_Cut.l1
    rw [if_neg (by omega), List.drop_of_length_le (by omega), List.map_nil, List.append_nil]
    have hk9 : (x9.length + 1) * (2 * 1000 + x9.length + 10) ≤ 1001 * 3010 := Nat.mul_le_mul (by omega) (by omega)
    rw [Sort_f x9 1000 k (by omega) (by omega) hx (by omega)]
    rfl
  | n + 1, i, k + 1, x9, h, hk, h9, hx => by
    have hil : i < x1.length := by omega
    unfold arboristref02_Cut.l1
    rw [if_pos (by omega), if_pos (by omega), rd_L1_get x1 i hil, PickR_f _ _ k (by omega) (by omega)]
    simp only [Option.bind_some]
    rw [if_pos (by omega), w1 i (by omega), Cut_l1 x1 x7 hl h7 n (i + 1) k _ (by omega) (by omega) (by simp; omega) (fun x hx' => by
      rcases List.mem_append.1 hx' with e | e
      · exact hx x e
      · rw [List.mem_singleton.1 e]; have := pick_len x1[i] x7; omega), drop_get x1 i hil, List.map_cons, List.append_assoc]
    rfl
theorem Cut_l0 (x0 : List Int) (x1 : List (List Int)) (x2 : List Int) (hl0 : x0.length ≤ 1000) (hl1 : x1.length ≤ 1000) (hl2 : x2.length ≤ 1000) : ∀ n i k (x7 : List Int), i + n = x2.length → n + 6000000 ≤ k → x7.length ≤ i → arboristref02_Cut.l0 k x0 x1 x2 x7 (i : Int) = some (Pl.sortU (x1.map fun t => pick t (x7 ++ (x2.drop i).map (idx x0))))
  | n, i, 0, _, _, h, _ => by omega
  | 0, i, k + 1, x7, h, _, h7 => by
    unfold arboristref02_Cut.l0
    rw [if_neg (by omega), List.drop_of_length_le (by omega), List.map_nil, List.append_nil]
    have := Cut_l1 x1 x7 hl1 (by omega) x1.length 0 k [] (by omega) (by omega) (by simp) (by simp)
    simpa using this
  | n + 1, i, k + 1, x7, h, hk, h7 => by
    unfold arboristref02_Cut.l0
    rw [if_pos (by omega), if_pos (by omega), Place_f x0 _ k (by omega) (by omega)]
    simp only [Option.bind_some]
    rw [if_pos (by omega), w1 i (by omega), Cut_l0 x0 x1 x2 hl0 hl1 hl2 n (i + 1) k _ (by omega) (by omega) (by simp; omega), drop_rd x2 i (by omega)]
    simp
theorem Cut_f (sc : List Int) (rows : List (List Int)) (on : List Int) (k : Nat) (hl0 : sc.length ≤ 1000) (hl1 : rows.length ≤ 1000) (hl2 : on.length ≤ 1000) (hk : 7000000 ≤ k) : arboristref02_Cut.f k sc rows on = some (cutRows sc rows on) := by
  unfold arboristref02_Cut.f
  have := Cut_l0 sc rows on hl0 hl1 hl2 on.length 0 k [] (by omega) (by omega) (by simp)
  simpa [cutRows] using this

theorem MeetR_l0 (x0 x1 : List Int) (hl : x0.length ≤ 1000000) (hl1 : x1.length ≤ 1000000) : ∀ n i k (x5 : List Int), i + n = x0.length → n + 1000001 < k → x5.length ≤ i → arboristref01_Meet.l0 k x0 x1 x5 (i : Int) = some (x5 ++ (x0.drop i).filter fun a => decide (a ∈ x1))
  | n, i, 0, _, _, h, _ => by omega
  | 0, i, k + 1, x5, h, _, _ => by
    unfold arboristref01_Meet.l0
    rw [if_neg (by omega), List.drop_of_length_le (by omega)]; simp
  | n + 1, i, k + 1, x5, h, hk, h5 => by
    unfold arboristref01_Meet.l0
    rw [if_pos (by omega), if_pos (by omega), drop_rd x0 i (by omega), In_f x1 _ k (by omega) (by omega)]
    simp only [Option.bind_some]
    by_cases he : rd x0 (i : Int) ∈ x1
    · rw [if_pos (decide_eq_true he), if_pos (by omega), w1 i (by omega), MeetR_l0 x0 x1 hl hl1 n (i + 1) k _ (by omega) (by omega) (by simp; omega)]
      simp [he]
    · rw [if_neg (by simp [he]), w1 i (by omega), MeetR_l0 x0 x1 hl hl1 n (i + 1) k _ (by omega) (by omega) (by omega)]
      simp [he]
theorem MeetR_f (l m : List Int) (k : Nat) (hl : l.length ≤ 1000000) (hm : m.length ≤ 1000000) (hk : 3000000 ≤ k) : arboristref01_Meet.f k l m = some (l.filter fun a => decide (a ∈ m)) := by
  unfold arboristref01_Meet.f
  have := MeetR_l0 l m hl hm l.length 0 k [] (by omega) (by omega) (by simp)
  simpa using this
theorem ProjectR_f (sc : List Int) (rows : List (List Int)) (vars : List Int) (k : Nat) (hs : Rise sc) (hl0 : sc.length ≤ 1000) (hl1 : rows.length ≤ 1000) (hl2 : vars.length ≤ 1000) (hk : 7000000 ≤ k) : arboristref02_Project.f k sc rows vars = some (projRel sc rows vars) := by
  unfold arboristref02_Project.f
  have h2 : (onto sc vars).length ≤ 1000 := by rw [onto_eq sc vars hs]; exact Nat.le_trans (List.length_filter_le _ _) hl0
  rw [MeetR_f sc vars k (by omega) (by omega) (by omega), ← onto_eq sc vars hs]
  simp only [Option.bind_some]
  rw [Cut_f sc rows (onto sc vars) k hl0 hl1 h2 hk]
  rfl

section
variable {w : World} {A : Option Addr} {c : Nat} {sc : List Int} {A' : Option Addr} {c' : Nat} {L : List (List Int)} {B : Option Addr} {d : Nat} {sd : List Int} {B' : Option Addr} {d' : Nat} {M : List (List Int)}
theorem refproject_is {A2 : Option Addr} {c2 : Nat} {vars : List Int} (h : RelRd w A c sc A' c' L) (hz : Sz sc L) (hl : L.length ≤ 1000) (hs : Rise sc) (hr2 : Kd.C KI w A2 vars.length vars) (hc2 : vars.length ≤ c2) (hm2 : vars.length ≤ 1000) {SC' : List Int} {L' : List (List Int)} (hP : projRel sc L vars = (SC', L')) :
    Calls Try.prog 28 #[.agg #[.slice A sc.length c, .slice A' L.length c'], .slice A2 vars.length c2] w fun e w' => RelTo w w' e SC' L' := by
  refine (arboristref02_Project.calls 7000000 A c sc A' c' L A2 c2 vars SC' L' w h.row h.cap h.rows h.cap2 hr2 hc2 ?_).mono ?_
  · rw [ProjectR_f sc L vars 7000000 hs hz.s hl hm2 (Nat.le_refl _), hP]
  · rintro e w' ⟨v0, v1, rfl, hR, hN, hb⟩
    obtain ⟨A3, c3, rfl, hl3, hr3⟩ := Kd.R_reads hR
    obtain ⟨A4, c4, rfl, hl4, hr4⟩ := Kd.N_reads hN
    exact ⟨A3, c3, A4, c4, rfl, ⟨hr3, hl3, hr4, hl4⟩, hb⟩
end
end Go.Proofs.Ytlinhcgggfdlpaa.G
