/- The law's cut, the document's Rise and Make, as the print tells them. -/
import Derived.Test.YtlinhcgggfdlpaaPMake
import Derived.Test.YtlinhcgggfdlpaaPCut
import Derived.Test.YtlinhcgggfdlpaaDocsP
set_option linter.unusedVariables false
set_option linter.unusedSimpArgs false
namespace Go.Proofs.Ytlinhcgggfdlpaa.G
open Go.RowKit Go.Proofs.YtlinhcgggfdlpaaW.PrintWords Go.Proofs.YtlinhcgggfdlpaaW.PrintLast Go.Proofs.YtlinhcgggfdlpaaW.PrintMore Go.Proofs.Ytlinhcgggfdlpaa.PRefs

def ten (x : List Int) : List Int := x.take 10
def tens (rows : List (List Int)) : List (List Int) := (rows.take 40).map ten
theorem ten_len (x : List Int) : (ten x).length ≤ 10 := by simp [ten]; omega
theorem tens_len (rows : List (List Int)) : (tens rows).length ≤ 40 := by simp [tens]; omega
theorem ten_ten (x : List Int) : ten (ten x) = ten x := by simp [ten, List.take_take]
theorem tens_tens (rows : List (List Int)) : tens (tens rows) = tens rows := by
  unfold tens
  rw [← List.map_take, List.take_take, List.map_map]
  exact List.map_congr_left fun x _ => ten_ten x
theorem tens_row (rows : List (List Int)) : ∀ x ∈ tens rows, x.length ≤ 10 := fun x hx => by
  obtain ⟨y, _, rfl⟩ := List.mem_map.1 hx
  exact ten_len y
theorem sz_tens (sc : List Int) (rows : List (List Int)) : Sz (ten sc) (tens rows) :=
  ⟨by have := ten_len sc; omega, by have := tens_len rows; omega, fun x hx => by have := tens_row rows x hx; omega⟩
theorem mn_take (x : List Int) : 0 ≤ mn (x.length : Int) 10 ∧ mn (x.length : Int) 10 ≤ (x.length : Int) ∧ x.take (mn (x.length : Int) 10).toNat = ten x := by
  unfold mn ten
  by_cases h : (10 : Int) < (x.length : Int)
  · rw [if_pos h]; exact ⟨by omega, by omega, rfl⟩
  · rw [if_neg h]
    refine ⟨by omega, by omega, ?_⟩
    rw [Int.toNat_natCast, List.take_of_length_le (Nat.le_refl _), List.take_of_length_le (by omega)]

theorem cutR_l0 (sc : List Int) (L : List (List Int)) (s : List Int) : ∀ n i k (acc : List (List Int)), i + n = min L.length 40 → n < k → acc.length ≤ i → arboristlaw02_cut.l0 k (i : Int) sc L s acc = some (s, acc ++ ((L.take 40).drop i).map ten)
  | n, i, 0, _, _, h, _ => by omega
  | 0, i, k + 1, acc, h, _, _ => by
    have hd : (L.take 40).drop i = [] := List.drop_of_length_le (by simp; omega)
    rw [hd, List.map_nil, List.append_nil]
    unfold arboristlaw02_cut.l0
    by_cases h1 : i < L.length
    · rw [if_pos (by omega), if_neg (by omega)]
    · rw [if_neg (by omega)]
  | n + 1, i, k + 1, acc, h, hk, ha => by
    have hil : i < L.length := by omega
    obtain ⟨m1, m2, m3⟩ := mn_take L[i]
    have h10 := ten_len L[i]
    unfold arboristlaw02_cut.l0
    rw [if_pos (by omega), if_pos (by omega)]
    simp only [Option.bind_some]
    rw [if_pos (by omega), rd_L1_get L i hil, if_pos m1, if_pos m2, m3, if_pos (by simp; omega), if_pos (by omega), w1 i (by omega), cutR_l0 sc L s n (i + 1) k _ (by omega) (by omega) (by simp; omega)]
    have hd : (L.take 40).drop i = L[i] :: (L.take 40).drop (i + 1) := by
      rw [drop_get (L.take 40) i (by simp; omega), List.getElem_take]
    rw [hd]
    simp
theorem cutR_f (sc : List Int) (L : List (List Int)) : arboristlaw02_cut.f 1000 sc L = some (ten sc, tens L) := by
  obtain ⟨m1, m2, m3⟩ := mn_take sc
  have h10 := ten_len sc
  unfold arboristlaw02_cut.f
  simp only [Option.bind_some]
  rw [if_pos m1, if_pos m2, m3, if_pos (by simp; omega)]
  have := cutR_l0 sc L (ten sc) (min L.length 40) 0 1000 [] (by omega) (by omega) (by simp)
  simpa [tens] using this
theorem lawcut_own {w : World} {A : Option Addr} {c : Nat} {sc : List Int} {A' : Option Addr} {c' : Nat} {L : List (List Int)} (h : RelRd w A c sc A' c' L) :
    Calls Try.prog 13 #[.agg #[.slice A sc.length c, .slice A' L.length c']] w fun e w' => ∃ A c A' c', e = .returned (.agg #[.slice A (ten sc).length c, .slice A' (tens L).length c']) ∧ RelM w' w.heap.size (.agg #[.slice A (ten sc).length c, .slice A' (tens L).length c']) (ten sc, tens L) ∧ Below w.heap.size w w' := by
  refine (arboristlaw02_cut.calls 1000 A c sc A' c' L (ten sc) (tens L) w h.row h.cap h.rows h.cap2 (cutR_f sc L)).mono ?_
  rintro e w' ⟨v0, v1, rfl, hR, hS, hb⟩
  have hM : RelM w' w.heap.size (.agg #[v0, v1]) (ten sc, tens L) := ⟨v0, v1, rfl, Kd.R_mono (Kd.R_bound hR) (fun k hk => hk.2.1), Kd.S_N (Kd.S_mono (Kd.S_bound hS) (fun k hk => hk.2.1))⟩
  have hM' := hM
  obtain ⟨A, c, A', c', e, _⟩ := hM.rd
  rw [e] at hM' ⊢
  exact ⟨A, c, A', c', rfl, hM', hb⟩

/-! ### Rise, Make -/
def riseU (l s : List Int) : List Int := l.foldl uni1 s
theorem uni1_len_in (s : List Int) (a : Int) : (uni1 s a).length = if a ∈ s then s.length else s.length + 1 := by
  unfold uni1
  rw [zip2_len]
  by_cases h : a ∈ s
  · rw [if_pos h]; simp [h]
  · rw [if_neg h]; simp [h]
theorem riseU_spec (l s : List Int) (hs : Rise s) : Rise (riseU l s) ∧ (∀ a, a ∈ riseU l s ↔ a ∈ s ∨ a ∈ l) ∧ (riseU l s).length ≤ s.length + l.length ∧ ((riseU l s).length = s.length + l.length ↔ l.Nodup ∧ ∀ a ∈ l, a ∉ s) := by
  induction l generalizing s with
  | nil => exact ⟨hs, fun a => by simp [riseU], by simp [riseU], by simp [riseU]⟩
  | cons a l ih =>
    obtain ⟨h1, h2, h3, h4⟩ := ih (uni1 s a) (uni1_rise s a hs)
    have hl := uni1_len_in s a
    have e : riseU (a :: l) s = riseU l (uni1 s a) := rfl
    rw [e]
    refine ⟨h1, fun b => ?_, ?_, ?_⟩
    · rw [h2, uni1_mem, List.mem_cons]
      constructor
      · rintro ((h | h) | h) <;> simp [h]
      · rintro (h | h | h) <;> simp [h]
    · rw [List.length_cons]; split at hl <;> omega
    · rw [List.length_cons]
      by_cases ha : a ∈ s
      · rw [if_pos ha] at hl
        refine ⟨fun h => by omega, fun h => absurd ha (h.2 a List.mem_cons_self)⟩
      · rw [if_neg ha] at hl
        have : (riseU l (uni1 s a)).length = s.length + (l.length + 1) ↔ (riseU l (uni1 s a)).length = (uni1 s a).length + l.length := by omega
        rw [this, h4, List.nodup_cons]
        constructor
        · rintro ⟨hn, hd⟩
          exact ⟨⟨fun hal => hd a hal ((uni1_mem _ _ _).2 (.inr rfl)), hn⟩, fun b hb => by
            rcases List.mem_cons.1 hb with e | e
            · rw [e]; exact ha
            · exact fun hbs => hd b e ((uni1_mem _ _ _).2 (.inl hbs))⟩
        · rintro ⟨⟨hal, hn⟩, hd⟩
          refine ⟨hn, fun b hb hu => ?_⟩
          rcases (uni1_mem _ _ _).1 hu with h | h
          · exact hd b (List.mem_cons_of_mem _ hb) h
          · rw [h] at hb; exact hal hb
theorem rise_sort (sc : List Int) : Rise (sortI sc) ↔ sc.Nodup := by
  constructor
  · exact fun h => (sortI_perm sc).nodup_iff.1 h.nodup
  · intro h
    have h1 := (sortI_perm sc).nodup_iff.2 h
    have h2 := sortI_up sc
    exact List.Pairwise.imp₂ (fun a b (hab : a ≤ b) (hne : a ≠ b) => by omega) h2 h1
theorem riseU_sort (sc : List Int) : (riseU sc []).length = sc.length ↔ Rise (sortI sc) := by
  have h := (riseU_spec sc [] List.Pairwise.nil).2.2.2
  simp only [List.length_nil, Nat.zero_add] at h
  rw [h, rise_sort]; simp
theorem riseU_is (sc : List Int) (h : Rise (sortI sc)) : riseU sc [] = sortI sc := by
  obtain ⟨h1, h2, _, _⟩ := riseU_spec sc [] List.Pairwise.nil
  refine (sortI_rise h1 ?_).symm
  rw [List.perm_ext_iff_of_nodup ((rise_sort sc).1 h) h1.nodup]
  intro a; rw [h2]; simp

theorem RiseR_l0 (x0 : List Int) (hl : x0.length ≤ 1000) : ∀ n i k (x3 : List Int), i + n = x0.length → n + 10000 < k → x3.length ≤ i → arboristref02_Rise.l0 k x0 x3 (i : Int) = some (riseU (x0.drop i) x3)
  | n, i, 0, _, _, h, _ => by omega
  | 0, i, k + 1, x3, h, _, _ => by
    unfold arboristref02_Rise.l0
    rw [if_neg (by omega), List.drop_of_length_le (by omega)]; rfl
  | n + 1, i, k + 1, x3, h, hk, h3 => by
    have h4 := uni1_len x3 (rd x0 (i : Int))
    unfold arboristref02_Rise.l0
    rw [if_pos (by omega), if_pos (by omega), Unite_f x3 [rd x0 (i : Int)] k (by omega) (by simp) (by simp; omega)]
    simp only [Option.bind_some]
    rw [w1 i (by omega), drop_rd x0 i (by omega)]
    exact RiseR_l0 x0 hl n (i + 1) k _ (by omega) (by omega) (by unfold uni1 at h4; omega)
theorem RiseR_f (l : List Int) (k : Nat) (hl : l.length ≤ 1000) (hk : 20000 ≤ k) : arboristref02_Rise.f k l = some (riseU l []) := by
  unfold arboristref02_Rise.f
  have := RiseR_l0 l hl l.length 0 k [] (by omega) (by omega) (by simp)
  simpa using this
theorem short_cons (n : Nat) (L : List (List Int)) (i : Nat) (h : i < L.length) : Short n (L.drop i) ↔ L[i].length ≠ n ∨ Short n (L.drop (i + 1)) := by
  unfold Short
  rw [drop_get L i h]
  constructor
  · rintro ⟨x, hx, hn⟩
    rcases List.mem_cons.1 hx with e | e
    · exact .inl (e ▸ hn)
    · exact .inr ⟨x, e, hn⟩
  · rintro (h1 | ⟨x, hx, hn⟩)
    · exact ⟨_, List.mem_cons_self, h1⟩
    · exact ⟨x, List.mem_cons_of_mem _ hx, hn⟩
theorem MakeR_l0 (x0 : List Int) (x1 : List (List Int)) (x6 : List Int) (h0 : x0.length ≤ 1000) (h1 : x1.length ≤ 1000) (h6 : x6.length ≤ 1000) : ∀ n i k, i + n = x1.length → n + 8000000 < k → arboristref02_Make.l0 k x0 x1 x6 (i : Int) = some (if Short x0.length (x1.drop i) then ([], [], false) else (x6, cutRows x0 x1 x6, true))
  | n, i, 0, _, h => by omega
  | 0, i, k + 1, h, _ => by
    unfold arboristref02_Make.l0
    rw [if_neg (by omega), Cut_f x0 x1 x6 k h0 h1 h6 (by omega), List.drop_of_length_le (by omega), if_neg (by rintro ⟨x, hx, _⟩; cases hx)]
    rfl
  | n + 1, i, k + 1, h, hk => by
    have hil : i < x1.length := by omega
    unfold arboristref02_Make.l0
    rw [if_pos (by omega), if_pos (by omega), rd_L1_get x1 i hil]
    by_cases hc : x1[i].length = x0.length
    · rw [if_pos (by omega), w1 i (by omega), MakeR_l0 x0 x1 x6 h0 h1 h6 n (i + 1) k (by omega) (by omega)]
      congr 1
      by_cases hs : Short x0.length (x1.drop (i + 1))
      · rw [if_pos hs, if_pos ((short_cons _ _ i hil).2 (.inr hs))]
      · rw [if_neg hs, if_neg (fun hh => by
          rcases (short_cons _ _ i hil).1 hh with e | e
          · exact e hc
          · exact hs e)]
    · rw [if_neg (by omega), if_pos ((short_cons _ _ i hil).2 (.inl hc))]
theorem MakeR_f (sc : List Int) (L : List (List Int)) (k : Nat) (h0 : sc.length ≤ 1000) (h1 : L.length ≤ 1000) (hk : 9000000 ≤ k) : arboristref02_Make.f k sc L = some ((makeRel sc L).1, (makeRel sc L).2, okMake sc L) := by
  have hno : okMake sc L = false → (makeRel sc L).1 = [] ∧ (makeRel sc L).2 = [] := fun h => by unfold makeRel; rw [h]; exact ⟨rfl, rfl⟩
  have hj1 : ∀ k x6, 0 < k → arboristref02_Make.j0 k sc L x6 true = some ([], [], false) := fun k x6 hk => by
    obtain ⟨k, rfl⟩ : ∃ j, k = j + 1 := ⟨k - 1, by omega⟩
    unfold arboristref02_Make.j0; rfl
  have hj0 : ∀ k x6, arboristref02_Make.j0 (k + 1) sc L x6 false = arboristref02_Make.l0 k sc L x6 0 := fun k x6 => by
    rw [arboristref02_Make.j0]; rfl
  have hR := RiseR_f sc k h0 (by omega)
  unfold arboristref02_Make.f
  rw [hR]
  simp only [Option.bind_some]
  have hl := (riseU_spec sc [] List.Pairwise.nil).2.2.1
  simp only [List.length_nil, Nat.zero_add] at hl
  by_cases hr : Rise (sortI sc)
  · have he := (riseU_sort sc).2 hr
    have hi := riseU_is sc hr
    rw [if_pos (by omega)]
    rw [hi] at he hl ⊢
    have hgo : ¬ (0 < sc.length ∧ rd (sortI sc) 0 < 0) → arboristref02_Make.j0 k sc L (sortI sc) false = some ((makeRel sc L).1, (makeRel sc L).2, okMake sc L) := fun hn => by
      obtain ⟨k, rfl⟩ : ∃ j, k = j + 1 := ⟨k - 1, by omega⟩
      rw [hj0]
      have := MakeR_l0 sc L (sortI sc) h0 h1 (by omega) L.length 0 k (by omega) (by omega)
      rw [show ((0 : Nat) : Int) = 0 from rfl, List.drop_zero] at this
      rw [this]
      by_cases hs : Short sc.length L
      · have hk0 : okMake sc L = false := decide_eq_false fun h => h.1 hs
        obtain ⟨e1, e2⟩ := hno hk0
        rw [if_pos hs, e1, e2, hk0]
      · have hk1 : okMake sc L = true := decide_eq_true ⟨hs, hr, hn⟩
        rw [if_neg hs, hk1]
        unfold makeRel
        rw [if_pos hk1]
    by_cases hp : 0 < sc.length
    · rw [if_pos (by omega), if_pos (by omega)]
      by_cases hneg : rd (sortI sc) 0 < 0
      · have hk0 : okMake sc L = false := decide_eq_false fun h => h.2.2 ⟨hp, hneg⟩
        obtain ⟨e1, e2⟩ := hno hk0
        rw [decide_eq_true hneg, hj1 k _ (by omega), e1, e2, hk0]
      · rw [decide_eq_false hneg]
        exact hgo fun h => hneg h.2
    · rw [if_neg (by omega)]
      exact hgo fun h => hp h.1
  · have hne : (riseU sc []).length ≠ sc.length := fun h => hr ((riseU_sort sc).1 h)
    have hk0 : okMake sc L = false := decide_eq_false fun h => hr h.2.1
    obtain ⟨e1, e2⟩ := hno hk0
    rw [if_neg (by omega), hj1 k _ (by omega), e1, e2, hk0]
theorem right_make {sc : List Int} {L : List (List Int)} (h : okMake sc L = true) : RightP (makeRel sc L).1 (makeRel sc L).2 := by
  have h' := of_decide_eq_true h
  unfold makeRel
  rw [if_pos h]
  refine ⟨⟨h'.2.1, fun hh => h'.2.2 ⟨by rw [← sortI_len]; exact hh.1, hh.2⟩⟩, ?_, cutRows_up _ _ _⟩
  exact cut_row sc L (sortI sc) (fun t ht => Classical.byContradiction fun hn => h'.1 ⟨t, ht, hn⟩) (fun v hv => (sortI_perm sc).mem_iff.1 hv)
theorem sz_make {sc : List Int} {L : List (List Int)} (h : Sz sc L) : Sz (makeRel sc L).1 (makeRel sc L).2 := by
  by_cases hk : okMake sc L = true
  · have hr := right_make hk
    have e1 : (makeRel sc L).1.length = sc.length := by unfold makeRel; rw [if_pos hk]; exact sortI_len sc
    have e2 : (makeRel sc L).2.length ≤ L.length := by unfold makeRel; rw [if_pos hk]; exact cutRows_len _ _ _
    exact ⟨by rw [e1]; exact h.s, Nat.le_trans e2 h.l, fun x hx => by rw [hr.2.1 x hx, e1]; exact h.s⟩
  · have hk' : okMake sc L = false := by simpa using hk
    have e : makeRel sc L = ([], []) := by unfold makeRel; rw [if_neg hk]
    rw [e]
    exact ⟨by simp, by simp, fun x hx => by cases hx⟩
theorem refmake_is {w : World} {A : Option Addr} {c : Nat} {sc : List Int} {A' : Option Addr} {c' : Nat} {L : List (List Int)} (h : RelRd w A c sc A' c' L) (hz : Sz sc L) (hl : L.length ≤ 1000) {S1 : List Int} {L1 : List (List Int)} {b : Bool} (hP : makeRel sc L = (S1, L1)) (hb : okMake sc L = b) :
    Calls Try.prog 15 #[.slice A sc.length c, .slice A' L.length c'] w fun e w' => ∃ A c A' c', e = .returned (.tuple #[.agg #[.slice A S1.length c, .slice A' L1.length c'], .bool b]) ∧ RelRd w' A c S1 A' c' L1 ∧ Below w.heap.size w w' := by
  refine (arboristref02_Make.calls 9000000 A c sc A' c' L S1 L1 b w h.row h.cap h.rows h.cap2 (by rw [MakeR_f sc L 9000000 hz.s hl (Nat.le_refl _), hP, hb])).mono ?_
  rintro e w' ⟨v0, v1, rfl, hR, hN, hbel⟩
  obtain ⟨A3, c3, rfl, hl3, hr3⟩ := Kd.R_reads hR
  obtain ⟨A4, c4, rfl, hl4, hr4⟩ := Kd.N_reads hN
  exact ⟨A3, c3, A4, c4, rfl, ⟨hr3, hl3, hr4, hl4⟩, hbel⟩
end Go.Proofs.Ytlinhcgggfdlpaa.G
