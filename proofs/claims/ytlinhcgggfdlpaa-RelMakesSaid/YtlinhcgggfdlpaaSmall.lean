/- The law's Small, as the print tells it: what it computes. -/
import Derived.Test.YtlinhcgggfdlpaaRefs2
set_option linter.unusedVariables false
set_option linter.unusedSimpArgs false
namespace Go.Proofs.Ytlinhcgggfdlpaa.G
open Go.RowKit Go.Proofs.YtlinhcgggfdlpaaW.PrintWords Go.Proofs.YtlinhcgggfdlpaaW.PrintLast Go.Proofs.YtlinhcgggfdlpaaW.PrintMore Go.Proofs.Ytlinhcgggfdlpaa.PRefs

def md (v q : Int) : Int := Int.tmod (Go.bits .and .i64 v 65535) q
def uni1 (s : List Int) (m : Int) : List Int := zip2 s ([m].filter fun a => decide (a ∉ s))
def smallS (l : List Int) : List Int := (l.take 4).foldl (fun s v => uni1 s (md v 6)) []
def rowTo (n : Nat) (row : List Int) (j : Nat) : List Int := (List.range n).map fun q => if q < j ∧ q < row.length then md (rd row q) 3 else 0
def smallRow (n : Nat) (row : List Int) : List Int := (List.range n).map fun q => if q < row.length then md (rd row q) 3 else 0
def smallRows (n : Nat) (rows : List (List Int)) : List (List Int) := Pl.sortU ((rows.take 20).map (smallRow n))

theorem rowTo_zero (n : Nat) (row : List Int) : rowTo n row 0 = List.replicate n 0 := by
  refine List.ext_getElem (by simp [rowTo]) fun i h1 h2 => ?_
  simp [rowTo]
theorem rowTo_len (n : Nat) (row : List Int) (j : Nat) : (rowTo n row j).length = n := by simp [rowTo]
theorem smallRow_len (n : Nat) (row : List Int) : (smallRow n row).length = n := by simp [smallRow]
theorem rowTo_set (n : Nat) (row : List Int) (j : Nat) (hj : j < n) (hr : j < row.length) : (rowTo n row j).set j (md (rd row j) 3) = rowTo n row (j + 1) := by
  refine List.ext_getElem (by simp [rowTo]) fun i h1 h2 => ?_
  rw [List.getElem_set]
  simp only [rowTo, List.getElem_map, List.getElem_range]
  by_cases e : j = i
  · subst e; rw [if_pos rfl, if_pos ⟨by omega, hr⟩]
  · rw [if_neg e]
    by_cases h : i < j ∧ i < row.length
    · rw [if_pos h, if_pos ⟨by omega, h.2⟩]
    · rw [if_neg h, if_neg (fun h' => h ⟨by omega, h'.2⟩)]
theorem rowTo_end (n : Nat) (row : List Int) (j : Nat) (h : n ≤ j ∨ row.length ≤ j) : rowTo n row j = smallRow n row := by
  refine List.ext_getElem (by simp [rowTo, smallRow]) fun i h1 h2 => ?_
  have hi : i < n := by simpa [rowTo] using h1
  simp only [rowTo, smallRow, List.getElem_map, List.getElem_range]
  by_cases h' : i < row.length
  · rw [if_pos h', if_pos ⟨by omega, h'⟩]
  · rw [if_neg h', if_neg (fun h => h' h.2)]

theorem Small_l2 (x1 : List (List Int)) (x5 : List Int) (x7 : List (List Int)) (i : Nat) (row : List Int) (hrow : rd_L1 x1 (i : Int) = row) (hi : i < x1.length) (hi2 : i ≤ 1000000) (h5 : x5.length ≤ 1000000) (h7 : x7.length ≤ 1000000) (r : List Int × List (List Int)) (K0 : Nat)
    (hr : ∀ k, K0 ≤ k → arboristlaw02_Small.l1 k x1 x5 (x7 ++ [smallRow x5.length row]) ((i + 1 : Nat) : Int) = some r) :
    ∀ n j k, j + n = x5.length → K0 + n + 1 ≤ k → arboristlaw02_Small.l2 k x1 x5 x7 (i : Int) (rowTo x5.length row j) (j : Int) = some r
  | n, j, 0, _, h => by omega
  | 0, j, k + 1, h, hk => by
    unfold arboristlaw02_Small.l2
    rw [if_neg (by omega), if_pos (by omega), rowTo_end _ _ _ (.inl (by omega)), w1 i (by omega)]
    exact hr k (by omega)
  | n + 1, j, k + 1, h, hk => by
    unfold arboristlaw02_Small.l2
    rw [if_pos (by omega), if_pos (by omega), if_pos (by omega), hrow]
    by_cases hj : j < row.length
    · rw [if_pos (by omega), if_pos (by omega), if_pos (by rw [rowTo_len]; omega), w1 j (by omega), Int.toNat_natCast]
      have := rowTo_set x5.length row j (by omega) hj
      unfold md at this
      rw [this]
      exact Small_l2 x1 x5 x7 i row hrow hi hi2 h5 h7 r K0 hr n (j + 1) k (by omega) (by omega)
    · rw [if_neg (by omega), if_pos (by omega), rowTo_end _ _ _ (.inr (by omega)), w1 i (by omega)]
      exact hr k (by omega)

theorem Small_l1 (x1 : List (List Int)) (x5 : List Int) (h5 : x5.length ≤ 1000) (C : Nat) (hC : 21 * (2 * x5.length + 40) ≤ C) : ∀ n i k (x7 : List (List Int)), i + n = min x1.length 20 → x7.length ≤ i → (∀ y ∈ x7, y.length ≤ x5.length) → (n + 1) * (x5.length + 10) + C ≤ k →
    arboristlaw02_Small.l1 k x1 x5 x7 (i : Int) = some (x5, Pl.sortU (x7 ++ ((x1.take 20).drop i).map (smallRow x5.length)))
  | n, i, 0, _, _, _, _, h => by
    have : 1 * (x5.length + 10) ≤ (n + 1) * (x5.length + 10) := Nat.mul_le_mul_right _ (by omega)
    omega
  | n, i, 1, _, _, _, _, h => by
    have : 1 * (x5.length + 10) ≤ (n + 1) * (x5.length + 10) := Nat.mul_le_mul_right _ (by omega)
    omega
  | 0, i, k + 2, x7, h, h7, h7M, hk => by
    have hs : arboristref01_Sort.f k x7 = some (Pl.sortU x7) := Sort_f x7 x5.length k (by omega) (by omega) h7M (by
      have h1 : (x7.length + 1) * (2 * x5.length + x7.length + 10) ≤ 21 * (2 * x5.length + 30) := Nat.mul_le_mul (by omega) (by omega)
      omega)
    have hd : (x1.take 20).drop i = [] := List.drop_of_length_le (by simp; omega)
    unfold arboristlaw02_Small.l1 arboristlaw02_Small.j3
    rw [hd]
    by_cases h1 : i < x1.length
    · rw [if_pos (by omega), decide_eq_false (by omega), if_neg (by simp), hs]; simp
    · rw [if_neg (by omega), if_neg (by simp), hs]; simp
  | n + 1, i, k + 2, x7, h, h7, h7M, hk => by
    have h1 : i < x1.length := by omega
    have h2 : i < 20 := by omega
    have e : (n + 1 + 1) * (x5.length + 10) = (n + 1) * (x5.length + 10) + (x5.length + 10) := by rw [Nat.add_mul (n + 1) 1, Nat.one_mul]
    unfold arboristlaw02_Small.l1 arboristlaw02_Small.j3
    rw [if_pos (by omega), decide_eq_true (by omega), if_pos rfl, if_pos (by omega), if_pos (by rw [Int.toNat_natCast]; omega), Int.toNat_natCast, ← rowTo_zero x5.length x1[i]]
    refine Small_l2 x1 x5 x7 i x1[i] (rd_L1_get x1 i h1) h1 (by omega) (by omega) (by omega) _ ((n + 1) * (x5.length + 10) + C) (fun k' hk' => ?_) x5.length 0 k (by omega) (by omega)
    rw [Small_l1 x1 x5 h5 C hC n (i + 1) k' _ (by omega) (by simp; omega) (fun y hy => by
      rcases List.mem_append.1 hy with hy | hy
      · exact h7M y hy
      · rw [List.mem_singleton.1 hy, smallRow_len]; exact Nat.le_refl _) hk']
    have hd : (x1.take 20).drop i = x1[i] :: (x1.take 20).drop (i + 1) := by
      rw [List.drop_eq_getElem_cons (by simp; omega)]; simp
    rw [hd]
    simp

theorem uni1_mem (s : List Int) (m x : Int) : x ∈ uni1 s m ↔ x ∈ s ∨ x = m := by
  unfold uni1
  rw [mem_zip2]
  simp only [List.mem_filter, List.mem_singleton, decide_eq_true_eq]
  constructor
  · rintro (h | ⟨h, _⟩)
    · exact .inl h
    · exact .inr h
  · rintro (h | h)
    · exact .inl h
    · by_cases hx : x ∈ s
      · exact .inl hx
      · exact .inr ⟨h, hx⟩
theorem zip2_len (l m : List Int) : (zip2 l m).length = l.length + m.length := by
  induction l, m using zip2.induct with
  | case1 m => rw [nil_zip2]; simp
  | case2 l h => rw [zip2_nil]; simp
  | case3 a l b m h ih => rw [zip2_cons, if_pos h, List.length_cons, ih]; simp; omega
  | case4 a l b m h ih => rw [zip2_cons, if_neg h, List.length_cons, ih]; simp; omega
theorem uni1_len (s : List Int) (m : Int) : (uni1 s m).length ≤ s.length + 1 := by
  unfold uni1
  rw [zip2_len]
  have : ([m].filter fun a => decide (a ∉ s)).length ≤ [m].length := List.length_filter_le _ _
  simp only [List.length_singleton] at this
  omega
theorem uni1_rise (s : List Int) (m : Int) (h : Rise s) : Rise (uni1 s m) := by
  unfold uni1
  refine zip2_rise _ _ h ?_ (fun x hx hx' => ?_)
  · exact (List.pairwise_singleton _ m).sublist List.filter_sublist
  · rw [List.mem_filter] at hx'
    exact (of_decide_eq_true hx'.2) hx

theorem Small_l0 (x0 : List Int) (x1 : List (List Int)) : ∀ n i k (x5 : List Int), i + n = min x0.length 4 → x5.length ≤ i → n + 3000 ≤ k →
    arboristlaw02_Small.l0 k x0 x1 x5 (i : Int) = some (((x0.take 4).drop i).foldl (fun s v => uni1 s (md v 6)) x5, smallRows (((x0.take 4).drop i).foldl (fun s v => uni1 s (md v 6)) x5).length x1)
  | n, i, 0, _, _, _, h => by omega
  | 0, i, 1, x5, h, h5, hk => by omega
  | 0, i, k + 2, x5, h, h5, hk => by
    have hd : (x0.take 4).drop i = [] := List.drop_of_length_le (by simp; omega)
    have h4 : x5.length ≤ 4 := by omega
    have hj : arboristlaw02_Small.j1 (k + 1) x1 x5 = some (x5, smallRows x5.length x1) := by
      unfold arboristlaw02_Small.j1
      have hm : min x1.length 20 ≤ 20 := Nat.min_le_right _ _
      have h1 : (min x1.length 20 + 1) * (x5.length + 10) ≤ 21 * 14 := Nat.mul_le_mul (by omega) (by omega)
      have := Small_l1 x1 x5 (by omega) 1008 (by omega) (min x1.length 20) 0 k [] (by omega) (by simp) (by simp) (by omega)
      simpa [smallRows] using this
    unfold arboristlaw02_Small.l0
    rw [hd]
    by_cases h1 : i < x0.length
    · rw [if_pos (by omega), if_neg (by omega), hj]; rfl
    · rw [if_neg (by omega), hj]; rfl
  | n + 1, i, k + 1, x5, h, h5, hk => by
    have h1 : i < x0.length := by omega
    have hd : (x0.take 4).drop i = rd x0 i :: (x0.take 4).drop (i + 1) := by
      rw [List.drop_eq_getElem_cons (by simp; omega), rd_get x0 i h1]; simp
    unfold arboristlaw02_Small.l0
    rw [if_pos (by omega), if_pos (by omega), if_pos (by omega), Unite_f x5 _ k (by omega) (by simp) (by simp; omega)]
    simp only [Option.bind_some]
    rw [w1 i (by omega), hd, List.foldl_cons]
    exact Small_l0 x0 x1 n (i + 1) k _ (by omega) (Nat.le_trans (uni1_len x5 _) (by omega)) (by omega)
theorem Small_f (x0 : List Int) (x1 : List (List Int)) (k : Nat) (hk : 4000 ≤ k) : arboristlaw02_Small.f k x0 x1 = some (smallS x0, smallRows (smallS x0).length x1) := by
  unfold arboristlaw02_Small.f
  have hm : min x0.length 4 ≤ 4 := Nat.min_le_right _ _
  have := Small_l0 x0 x1 (min x0.length 4) 0 k [] (by omega) (by simp) (by omega)
  simpa [smallS] using this
end Go.Proofs.Ytlinhcgggfdlpaa.G
