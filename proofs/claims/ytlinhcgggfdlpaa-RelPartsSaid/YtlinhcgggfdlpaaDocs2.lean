/- The document's answer for layer 2, as the print tells it: Values, Find. -/
import Derived.Test.YtlinhcgggfdlpaaPValues
import Derived.Test.YtlinhcgggfdlpaaPFind
import Derived.Test.YtlinhcgggfdlpaaDocSel
set_option linter.unusedVariables false
set_option linter.unusedSimpArgs false
namespace Go.Proofs.Ytlinhcgggfdlpaa.G
open Go.RowKit Go.Proofs.YtlinhcgggfdlpaaW.PrintWords Go.Proofs.YtlinhcgggfdlpaaW.PrintLast Go.Proofs.YtlinhcgggfdlpaaW.PrintMore Go.Proofs.Ytlinhcgggfdlpaa.PRefs

theorem ValuesR_l0 (at_ : Int) (sc : List Int) (L : List (List Int)) (hl : L.length ≤ 1000000) (h0 : 0 ≤ at_) (hat : ∀ x ∈ L, at_ < (x.length : Int)) : ∀ n i k (x6 : List Int), i + n = L.length → n + 3000100 < k → x6.length ≤ i → arboristref02_Values.l0 k at_ x6 (i : Int) sc L = some ((L.drop i).foldl (fun s t => uni1 s (rd t at_)) x6)
  | n, i, 0, _, _, h, _ => by omega
  | 0, i, k + 1, x6, h, _, _ => by
    unfold arboristref02_Values.l0
    rw [if_neg (by omega), List.drop_of_length_le (by omega)]; rfl
  | n + 1, i, k + 1, x6, h, hk, h6 => by
    have hil : i < L.length := by omega
    have h2 := hat _ (List.getElem_mem hil)
    have h3 := uni1_len x6 (rd L[i] at_)
    unfold arboristref02_Values.l0
    rw [if_pos (by omega), if_pos (by omega), if_pos (by omega), if_pos h0, rd_L1_get L i hil, if_pos h2, Unite_f x6 [rd L[i] at_] k (by omega) (by simp) (by simp; omega)]
    simp only [Option.bind_some]
    rw [w1 i (by omega), drop_get L i hil]
    exact ValuesR_l0 at_ sc L hl h0 hat n (i + 1) k _ (by omega) (by omega) (by have := uni1_len x6 (rd L[i] at_); unfold uni1 at this; omega)
theorem foldl_uni_mem (f : List Int → Int) (L : List (List Int)) (s : List Int) (hs : Rise s) : Rise (L.foldl (fun s t => uni1 s (f t)) s) ∧ ∀ a, a ∈ L.foldl (fun s t => uni1 s (f t)) s ↔ a ∈ s ∨ ∃ t ∈ L, f t = a := by
  induction L generalizing s with
  | nil => exact ⟨hs, fun a => by simp⟩
  | cons t L ih =>
    obtain ⟨h1, h2⟩ := ih (uni1 s (f t)) (uni1_rise _ _ hs)
    refine ⟨h1, fun a => ?_⟩
    rw [List.foldl_cons, h2, uni1_mem]
    simp only [List.mem_cons, exists_eq_or_imp]
    constructor
    · rintro ((h | h) | h)
      · exact .inl h
      · exact .inr (.inl h.symm)
      · exact .inr (.inr h)
    · rintro (h | h | h)
      · exact .inl (.inl h)
      · exact .inl (.inr h.symm)
      · exact .inr h
theorem rise_ext {l m : List Int} (hl : Rise l) (hm : Rise m) (h : ∀ a, a ∈ l ↔ a ∈ m) : l = m :=
  rise_perm (hl.imp fun {a b} (hab : a < b) => by omega) hm ((List.perm_ext_iff_of_nodup hl.nodup hm.nodup).2 h)
theorem ValuesR_f (sc : List Int) (L : List (List Int)) (v : Int) (k : Nat) (hsl : sc.length ≤ 1000000) (hl : L.length ≤ 1000000) (hP : RightP sc L) (hk : 5000000 ≤ k) : arboristref02_Values.f k sc L v = some (valsOf sc L v) := by
  unfold arboristref02_Values.f
  rw [Place_f sc v k (by omega) (by omega)]
  simp only [Option.bind_some]
  by_cases hv : v ∈ sc
  · obtain ⟨h1, h2⟩ := idx_in hv
    have := ValuesR_l0 (idx sc v) sc L hl (by omega) (fun x hx => by rw [hP.2.1 x hx]; omega) L.length 0 k [] (by omega) (by omega) (by simp)
    rw [show ((0 : Nat) : Int) = (0 : Int) from rfl, List.drop_zero] at this
    rw [this]
    congr 1
    obtain ⟨g1, g2⟩ := foldl_uni_mem (fun t => rd t (idx sc v)) L [] List.Pairwise.nil
    obtain ⟨g3, g4⟩ := vals_in hP hv
    refine rise_ext g1 g3 fun a => ?_
    rw [g2, g4]
    simp [look]
  · rw [idx_out hv, vals_out hP hv]
    obtain ⟨k, rfl⟩ : ∃ j, k = j + 1 := ⟨k - 1, by omega⟩
    unfold arboristref02_Values.l0
    by_cases h0 : (0 : Int) < (L.length : Int)
    · rw [if_pos h0, if_neg (by omega)]
    · rw [if_neg h0]

theorem FindR_l0 (L : List (List Int)) (t : List Int) (hl : L.length ≤ 1000000) (hx : ∀ x ∈ L, x.length ≤ 1000000) (ht : t.length ≤ 1000000) (hu : Pl.Up L) : ∀ n i k, i + n = L.length → n + 3000000 < k → (∀ x ∈ L.take i, Pl.lt x t) → ∃ p, arboristref01_Find.l0 k L t (i : Int) = some (p, decide (t ∈ L))
  | n, i, 0, _, h, _ => by omega
  | 0, i, k + 1, h, _, hb => by
    unfold arboristref01_Find.l0
    rw [if_neg (by omega)]
    rw [List.take_of_length_le (by omega)] at hb
    exact ⟨_, by rw [decide_eq_false fun hm => Pl.lt_irrefl t (hb t hm)]⟩
  | n + 1, i, k + 1, h, hk, hb => by
    have hil : i < L.length := by omega
    have h1 : L[i].length ≤ 1000000 := hx _ (List.getElem_mem hil)
    unfold arboristref01_Find.l0
    rw [if_pos (by omega), if_pos (by omega), rd_L1_get L i hil, Compare_f _ _ k (by omega) (by omega) (by omega)]
    simp only [Option.bind_some]
    by_cases hc : Pl.lt L[i] t
    · rw [if_pos ((Pl.cmp_neg _ _).2 hc), w1 i (by omega)]
      refine FindR_l0 L t hl hx ht hu n (i + 1) k (by omega) (by omega) fun x hx' => ?_
      rw [List.take_succ_eq_append_getElem hil] at hx'
      rcases List.mem_append.1 hx' with e | e
      · exact hb x e
      · rw [List.mem_singleton.1 e]; exact hc
    · rw [if_neg (fun h => hc ((Pl.cmp_neg _ _).1 h))]
      refine ⟨(i : Int), ?_⟩
      have : (Pl.cmp L[i] t == 0) = decide (t ∈ L) := by
        by_cases he : L[i] = t
        · rw [(Pl.cmp_eq _ _).2 he, decide_eq_true (he ▸ List.getElem_mem hil)]; rfl
        · rw [beq_eq_false_iff_ne.2 (fun h => he ((Pl.cmp_eq _ _).1 h)), decide_eq_false]
          intro hm
          obtain ⟨j, hj, hjt⟩ := List.getElem_of_mem hm
          rcases Nat.lt_trichotomy j i with hji | hji | hji
          · exact Pl.lt_irrefl t (by
              have := hb L[j] (List.mem_take_iff_getElem.2 ⟨j, by omega, rfl⟩)
              rwa [hjt] at this)
          · subst hji; exact he hjt
          · have := List.pairwise_iff_getElem.1 hu i j hil hj hji
            rw [hjt] at this
            exact hc this
      rw [this]
theorem FindR_f (L : List (List Int)) (t : List Int) (k : Nat) (hl : L.length ≤ 1000000) (hx : ∀ x ∈ L, x.length ≤ 1000000) (ht : t.length ≤ 1000000) (hu : Pl.Up L) (hk : 5000000 ≤ k) : ∃ p, arboristref01_Find.f k L t = some (p, decide (t ∈ L)) := by
  unfold arboristref01_Find.f
  exact FindR_l0 L t hl hx ht hu L.length 0 k (by omega) (by omega) (by simp)
theorem vals_len {sc : List Int} {L : List (List Int)} (h : RightP sc L) (v : Int) : (valsOf sc L v).length ≤ L.length := by
  by_cases hv : v ∈ sc
  · have h1 : ∀ x ∈ (projRel sc L [v]).2, x.length ≤ 1 := fun x hx => by
      have := cut_row sc L (onto sc [v]) h.2.1 (by rw [onto_one h.1.1 hv]; simpa using hv) x hx
      rw [onto_one h.1.1 hv] at this
      rw [this]; simp
    have h2 := flatten_len (projRel sc L [v]).2 1 h1
    have h3 : (projRel sc L [v]).2.length ≤ L.length := cutRows_len _ _ _
    unfold valsOf
    omega
  · rw [vals_out h hv]; simp
section
variable {w : World} {A : Option Addr} {c : Nat} {sc : List Int} {A' : Option Addr} {c' : Nat} {L : List (List Int)}
theorem refselect_is {v value : Int} (h : RelRd w A c sc A' c' L) (hz : Sz sc L) (hr : RightP sc L) {SC' : List Int} {L' : List (List Int)} (hP : selRel sc L v value = (SC', L')) :
    Calls Try.prog 29 #[.agg #[.slice A sc.length c, .slice A' L.length c'], .int .i64 v, .int .i64 value] w fun e w' => RelTo w w' e SC' L' := by
  refine (refselect_own h hz hr.2.1).mono ?_
  rintro e w' ⟨u, rfl, hv, hb⟩
  rw [hP] at hv
  obtain ⟨A, c, A', c', rfl, h⟩ := hv.rd
  exact ⟨A, c, A', c', rfl, h, hb⟩
theorem refvalues_is {v : Int} (h : RelRd w A c sc A' c' L) (hz : Sz sc L) (hr : RightP sc L) {l : List Int} (hl : valsOf sc L v = l) :
    Calls Try.prog 31 #[.agg #[.slice A sc.length c, .slice A' L.length c'], .int .i64 v] w fun e w' => ∃ A c, e = .returned (.slice A l.length c) ∧ (l.length ≤ c ∧ Kd.C KI w' A l.length l) ∧ Below w.heap.size w w' := by
  subst hl
  have h1 := hz.s
  have h2 := hz.l
  refine (arboristref02_Values.calls 5000000 A c sc A' c' L v (valsOf sc L v) w h.row h.cap h.rows h.cap2 (ValuesR_f sc L v 5000000 (by omega) (by omega) hr (Nat.le_refl _))).mono ?_
  rintro e w' ⟨u, rfl, hv, hb⟩
  obtain ⟨A, c, rfl, h0, h1⟩ := Kd.R_reads hv
  exact ⟨A, c, rfl, ⟨h0, h1⟩, hb⟩
end
end Go.Proofs.Ytlinhcgggfdlpaa.G
