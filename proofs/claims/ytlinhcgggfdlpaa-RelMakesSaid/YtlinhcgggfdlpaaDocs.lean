/- The document's answer for layer 2, as the print tells it: Same, Right. -/
import Derived.Test.YtlinhcgggfdlpaaPRefsx6
import Derived.Test.YtlinhcgggfdlpaaBox
set_option linter.unusedVariables false
set_option linter.unusedSimpArgs false
namespace Go.Proofs.Ytlinhcgggfdlpaa.G
open Go.RowKit Go.Proofs.YtlinhcgggfdlpaaW.PrintWords Go.Proofs.YtlinhcgggfdlpaaW.PrintLast Go.Proofs.YtlinhcgggfdlpaaW.PrintMore Go.Proofs.Ytlinhcgggfdlpaa.PRefs

theorem drop_get {α : Type} (L : List α) (i : Nat) (h : i < L.length) : L.drop i = L[i] :: L.drop (i + 1) := List.drop_eq_getElem_cons h

theorem Same_l0 (sa sb : List Int) (La Lb : List (List Int)) (he : La.length = Lb.length) (hl : La.length ≤ 1000000) (hx : ∀ x ∈ La, x.length ≤ 1000000) (hy : ∀ x ∈ Lb, x.length ≤ 1000000) : ∀ n i k, i + n = La.length → n + 3000000 < k → arboristref02_Same.l0 k (i : Int) sa La sb Lb = some (decide (La.drop i = Lb.drop i))
  | 0, i, 0, _, h => by omega
  | 0, i, k + 1, h, _ => by
    unfold arboristref02_Same.l0
    rw [if_neg (by omega), List.drop_of_length_le (by omega), List.drop_of_length_le (by omega)]; simp
  | n + 1, i, 0, _, h => by omega
  | n + 1, i, k + 1, h, hk => by
    have h1 : La[i].length ≤ 1000000 := hx _ (List.getElem_mem (by omega))
    have h2 : Lb[i].length ≤ 1000000 := hy _ (List.getElem_mem (by omega))
    unfold arboristref02_Same.l0
    rw [if_pos (by omega), if_pos (by omega), if_pos (by omega), rd_L1_get La i (by omega), rd_L1_get Lb i (by omega), Compare_f _ _ k (by omega) (by omega) (by omega)]
    simp only [Option.bind_some]
    have hd1 := drop_get La i (by omega)
    have hd2 := drop_get Lb i (by omega)
    by_cases hc : La[i] = Lb[i]
    · rw [if_pos ((Pl.cmp_eq _ _).2 hc), w1 i (by omega), Same_l0 sa sb La Lb he hl hx hy n (i + 1) k (by omega) (by omega)]
      congr 1
      rw [decide_eq_decide, hd1, hd2, hc]
      exact ⟨fun h => by rw [h], fun h => (List.cons.inj h).2⟩
    · rw [if_neg (fun h => hc ((Pl.cmp_eq _ _).1 h)), decide_eq_false]
      rw [hd1, hd2]
      exact fun h => hc (List.cons.inj h).1
theorem Same_f (sa sb : List Int) (La Lb : List (List Int)) (k : Nat) (ha : sa.length ≤ 1000000) (hb : sb.length ≤ 1000000) (hl : La.length ≤ 1000000) (hx : ∀ x ∈ La, x.length ≤ 1000000) (hy : ∀ x ∈ Lb, x.length ≤ 1000000) (hk : 5000000 ≤ k) : arboristref02_Same.f k sa La sb Lb = some (decide (sa = sb ∧ La = Lb)) := by
  have hj : ∀ k, 4999999 ≤ k → La.length = Lb.length → arboristref02_Same.j0 k false sa La sb Lb = some (decide (La = Lb)) := fun k hk he => by
    obtain ⟨k, rfl⟩ : ∃ j, k = j + 1 := ⟨k - 1, by omega⟩
    unfold arboristref02_Same.j0
    have := Same_l0 sa sb La Lb he hl hx hy La.length 0 k (by omega) (by omega)
    simpa using this
  have hj1 : ∀ k, 0 < k → arboristref02_Same.j0 k true sa La sb Lb = some false := fun k hk => by
    obtain ⟨k, rfl⟩ : ∃ j, k = j + 1 := ⟨k - 1, by omega⟩
    unfold arboristref02_Same.j0; rfl
  unfold arboristref02_Same.f
  by_cases he : La.length = Lb.length
  · rw [if_pos (by omega), Compare_f sa sb k (by omega) (by omega) (by omega)]
    simp only [Option.bind_some]
    by_cases hc : sa = sb
    · rw [(Pl.cmp_eq _ _).2 hc, show ((0 : Int) != 0) = false from rfl, hj k (by omega) he]
      simp [hc]
    · have hn : Pl.cmp sa sb ≠ 0 := fun h => hc ((Pl.cmp_eq _ _).1 h)
      rw [bne_iff_ne.2 hn, hj1 k (by omega)]
      simp [hc]
  · rw [if_neg (by omega), hj1 k (by omega)]
    have : La ≠ Lb := fun e => he (by rw [e])
    simp [this]

theorem w1' (i : Nat) (h : i ≤ 1000000000000) (h0 : 1 ≤ i) : wrap64 ((i : Int) - 1) = ((i - 1 : Nat) : Int) := by rw [Go.IntWalk.wrap64_in _ (by omega)]; omega

theorem Rising_l0 (x0 : List Int) (hl : x0.length ≤ 1000000000) : ∀ n i k, i + n = x0.length → 1 ≤ i → n < k → Rise (x0.take i) → arboristref01_Rising.l0 k x0 (i : Int) = some (decide (Rise x0))
  | n, i, 0, _, _, h, _ => by omega
  | 0, i, k + 1, h, _, _, hr => by
    unfold arboristref01_Rising.l0
    rw [if_neg (by omega)]
    rw [List.take_of_length_le (by omega)] at hr
    simp [hr]
  | n + 1, i, k + 1, h, h1, hk, hr => by
    unfold arboristref01_Rising.l0
    rw [if_pos (by omega), if_pos (by omega), w1' i (by omega) h1, if_pos (by omega), if_pos (by omega)]
    by_cases hc : rd x0 (i : Int) ≤ rd x0 ((i - 1 : Nat) : Int)
    · rw [if_pos hc]
      have : ¬ Rise x0 := fun hh => by
        have h2 : Rise (x0.take (i + 1)) := List.Pairwise.sublist (List.take_sublist _ _) hh
        rcases ((rise_take x0 i (by omega)).1 h2).2 with e | e
        · omega
        · omega
      simp [this]
    · rw [if_neg hc, w1 i (by omega)]
      exact Rising_l0 x0 hl n (i + 1) k (by omega) (by omega) (by omega) ((rise_take x0 i (by omega)).2 ⟨hr, .inr (by omega)⟩)
theorem Rising_f (x0 : List Int) (k : Nat) (hl : x0.length ≤ 1000000000) (hk : x0.length + 1 < k) : arboristref01_Rising.f k x0 = some (decide (Rise x0)) := by
  unfold arboristref01_Rising.f
  by_cases h : x0.length = 0
  · obtain ⟨k, rfl⟩ : ∃ j, k = j + 1 := ⟨k - 1, by omega⟩
    unfold arboristref01_Rising.l0
    rw [if_neg (by omega)]
    have : x0 = [] := List.length_eq_zero_iff.1 h
    subst this
    simp [Rise]
  · refine Rising_l0 x0 hl (x0.length - 1) 1 k (by omega) (by omega) (by omega) ?_
    match x0, h with
    | a :: l, _ => exact List.pairwise_singleton _ _

theorem RightR_l0 (sc : List Int) (L : List (List Int)) (hl : L.length ≤ 1000000) (hx : ∀ x ∈ L, x.length ≤ 1000000) (hs : Rise sc ∧ ¬ (0 < sc.length ∧ rd sc 0 < 0)) : ∀ n i k, i + n = L.length → n + 3000000 < k → ((∀ t ∈ L.take i, t.length = sc.length) ∧ Pl.Up (L.take i)) → arboristref02_Right.l0 k (i : Int) sc L = some (decide (RightP sc L))
  | n, i, 0, _, h, _ => by omega
  | 0, i, k + 1, h, _, hr => by
    unfold arboristref02_Right.l0
    rw [if_neg (by omega)]
    rw [List.take_of_length_le (by omega)] at hr
    have : RightP sc L := ⟨hs, hr.1, hr.2⟩
    simp [this]
  | n + 1, i, k + 1, h, hk, hr => by
    have hil : i < L.length := by omega
    have h1 : L[i].length ≤ 1000000 := hx _ (List.getElem_mem hil)
    have hno : ∀ h2 : ¬ (L[i].length = sc.length ∧ (i = 0 ∨ Pl.lt (L.getD (i - 1) []) L[i])), decide (RightP sc L) = false := fun h2 => decide_eq_false fun hh => by
      refine right_no sc L (i + 1) (fun h3 => h2 ?_) hh
      have := ((right_take_succ sc L i hil).1 h3).2
      rwa [getD_get _ _ hil] at this
    have hgo : L[i].length = sc.length ∧ (i = 0 ∨ Pl.lt (L.getD (i - 1) []) L[i]) → (∀ t ∈ L.take (i + 1), t.length = sc.length) ∧ Pl.Up (L.take (i + 1)) := fun h2 => (right_take_succ sc L i hil).2 ⟨hr, by rw [getD_get _ _ hil]; exact h2⟩
    unfold arboristref02_Right.l0
    rw [if_pos (by omega), if_pos (by omega), rd_L1_get L i hil]
    by_cases hc : L[i].length = sc.length
    · rw [if_pos (by omega)]
      by_cases hi0 : i = 0
      · rw [if_neg (by omega), w1 i (by omega)]
        exact RightR_l0 sc L hl hx hs n (i + 1) k (by omega) (by omega) (hgo ⟨hc, .inl hi0⟩)
      · have hi1 : i - 1 < L.length := by omega
        have h2 : L[i - 1].length ≤ 1000000 := hx _ (List.getElem_mem hi1)
        rw [if_pos (by omega), w1' i (by omega) (by omega), if_pos (by omega), if_pos (by omega), rd_L1_get L (i - 1) hi1, Compare_f _ _ k (by omega) (by omega) (by omega)]
        simp only [Option.bind_some]
        by_cases hcmp : Pl.lt L[i - 1] L[i]
        · rw [if_neg (by rw [Pl.cmp_ge]; exact fun h => h hcmp), w1 i (by omega)]
          exact RightR_l0 sc L hl hx hs n (i + 1) k (by omega) (by omega) (hgo ⟨hc, .inr (by rw [getD_get _ _ hi1]; exact hcmp)⟩)
        · rw [if_pos (by rw [Pl.cmp_ge]; exact hcmp), hno (fun hh => by
            rcases hh.2 with e | e
            · exact hi0 e
            · rw [getD_get _ _ hi1] at e; exact hcmp e)]
    · rw [if_neg (by omega), hno (fun hh => hc hh.1)]
theorem RightR_f (sc : List Int) (L : List (List Int)) (k : Nat) (hsl : sc.length ≤ 1000000) (hl : L.length ≤ 1000000) (hx : ∀ x ∈ L, x.length ≤ 1000000) (hk : 5000000 ≤ k) : arboristref02_Right.f k sc L = some (decide (RightP sc L)) := by
  have hj1 : ∀ k, 0 < k → ¬ (Rise sc ∧ ¬ (0 < sc.length ∧ rd sc 0 < 0)) → arboristref02_Right.j0 k true sc L = some (decide (RightP sc L)) := fun k hk hn => by
    obtain ⟨k, rfl⟩ : ∃ j, k = j + 1 := ⟨k - 1, by omega⟩
    unfold arboristref02_Right.j0
    show (if true = true then some false else _) = _
    rw [if_pos rfl, decide_eq_false fun hh : RightP sc L => hn hh.1]
  have hj2 : ∀ k, 4999999 ≤ k → (Rise sc ∧ ¬ (0 < sc.length ∧ rd sc 0 < 0)) → arboristref02_Right.j0 k false sc L = some (decide (RightP sc L)) := fun k hk hs => by
    obtain ⟨k, rfl⟩ : ∃ j, k = j + 1 := ⟨k - 1, by omega⟩
    unfold arboristref02_Right.j0
    show (if false = true then some false else _) = _
    rw [if_neg (by simp)]
    exact RightR_l0 sc L hl hx hs L.length 0 k (by omega) (by omega) ⟨by simp, List.Pairwise.nil⟩
  have hR := Rising_f sc k (by omega) (by omega)
  unfold arboristref02_Right.f
  by_cases h0 : 0 < sc.length
  · rw [if_pos (by omega), if_pos (by omega)]
    by_cases hneg : rd sc 0 < 0
    · rw [if_pos hneg, hj1 k (by omega) (fun hh => hh.2 ⟨h0, hneg⟩)]
    · rw [if_neg hneg, hR]
      simp only [Option.bind_some]
      by_cases hri : Rise sc
      · rw [decide_eq_true hri]
        exact hj2 k (by omega) ⟨hri, fun hh => hneg hh.2⟩
      · rw [decide_eq_false hri]
        exact hj1 k (by omega) (fun hh => hri hh.1)
  · rw [if_neg (by omega), hR]
    simp only [Option.bind_some]
    by_cases hri : Rise sc
    · rw [decide_eq_true hri]
      exact hj2 k (by omega) ⟨hri, fun hh => h0 hh.1⟩
    · rw [decide_eq_false hri]
      exact hj1 k (by omega) (fun hh => hri hh.1)


section
variable {w : World} {A : Option Addr} {c : Nat} {sc : List Int} {A' : Option Addr} {c' : Nat} {L : List (List Int)} {B : Option Addr} {d : Nat} {sd : List Int} {B' : Option Addr} {d' : Nat} {M : List (List Int)}
theorem refright_is (h : RelRd w A c sc A' c' L) {b : Bool} (hf : arboristref02_Right.f 5000000 sc L = some b) :
    Calls Try.prog 16 #[.agg #[.slice A sc.length c, .slice A' L.length c']] w fun e w' => e = .returned (.bool b) ∧ Below w.heap.size w w' :=
  arboristref02_Right.calls 5000000 A c sc A' c' L b w h.row h.cap h.rows h.cap2 hf
theorem refsame_is (h : RelRd w A c sc A' c' L) (hz : Sz sc L) (h' : RelRd w B d sd B' d' M) (hz' : Sz sd M) (b : Bool) (hb : decide (sc = sd ∧ L = M) = b) :
    Calls Try.prog 18 #[.agg #[.slice A sc.length c, .slice A' L.length c'], .agg #[.slice B sd.length d, .slice B' M.length d']] w fun e w' => e = .returned (.bool b) ∧ Below w.heap.size w w' := by
  have h1 := hz.s
  have h2 := hz'.s
  have h3 := hz.l
  refine arboristref02_Same.calls 5000000 A c sc A' c' L B d sd B' d' M b w h.row h.cap h.rows h.cap2 h'.row h'.cap h'.rows h'.cap2 ?_
  rw [Same_f sc sd L M 5000000 (by omega) (by omega) (by omega) (fun x hx => by have := hz.x x hx; omega) (fun x hx => by have := hz'.x x hx; omega) (Nat.le_refl _), hb]
end
end Go.Proofs.Ytlinhcgggfdlpaa.G
