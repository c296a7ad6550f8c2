/- The join laws' small, as the print tells it: what it computes; it is right. -/
import Derived.Test.YtnmonjincnlhiaaDoorBox
set_option linter.unusedVariables false
set_option linter.unusedSimpArgs false
namespace Go.Proofs.YtnmonjincnlhiaaDoor.G
open Go.RowKit Go.Proofs.YtnmonjincnlhiaaDoorW.PrintWords Go.Proofs.YtnmonjincnlhiaaDoorW.PrintLast Go.Proofs.YtnmonjincnlhiaaDoorW.PrintMore Go.Proofs.YtnmonjincnlhiaaDoor.PRefs

def smallS3 (l : List Int) : List Int := (l.take 3).foldl (fun s v => uni1 s (md v 5)) []
def smallRows3 (n : Nat) (rows : List (List Int)) : List (List Int) := Pl.sortU ((rows.take 12).map (smallRow n))
theorem Small3_l2 (x1 : List (List Int)) (x5 : List Int) (x7 : List (List Int)) (i : Nat) (row : List Int) (hrow : rd_L1 x1 (i : Int) = row) (hi : i < x1.length) (hi2 : i ≤ 1000000) (h5 : x5.length ≤ 1000000) (h7 : x7.length ≤ 1000000) (r : List Int × List (List Int)) (K0 : Nat)
    (hr : ∀ k, K0 ≤ k → arboristlaw03_small.l1 k x1 x5 (x7 ++ [smallRow x5.length row]) ((i + 1 : Nat) : Int) = some r) :
    ∀ n j k, j + n = x5.length → K0 + n + 1 ≤ k → arboristlaw03_small.l2 k x1 x5 x7 (i : Int) (rowTo x5.length row j) (j : Int) = some r
  | n, j, 0, _, h => by omega
  | 0, j, k + 1, h, hk => by
    unfold arboristlaw03_small.l2
    rw [if_neg (by omega), if_pos (by omega), rowTo_end _ _ _ (.inl (by omega)), w1 i (by omega)]
    exact hr k (by omega)
  | n + 1, j, k + 1, h, hk => by
    unfold arboristlaw03_small.l2
    rw [if_pos (by omega), if_pos (by omega), if_pos (by omega), hrow]
    by_cases hj : j < row.length
    · rw [if_pos (by omega), if_pos (by omega), if_pos (by rw [rowTo_len]; omega), w1 j (by omega), Int.toNat_natCast]
      have := rowTo_set x5.length row j (by omega) hj
      unfold md at this
      rw [this]
      exact Small3_l2 x1 x5 x7 i row hrow hi hi2 h5 h7 r K0 hr n (j + 1) k (by omega) (by omega)
    · rw [if_neg (by omega), if_pos (by omega), rowTo_end _ _ _ (.inr (by omega)), w1 i (by omega)]
      exact hr k (by omega)

theorem Small3_l1 (x1 : List (List Int)) (x5 : List Int) (h5 : x5.length ≤ 1000) (C : Nat) (hC : 21 * (2 * x5.length + 40) ≤ C) : ∀ n i k (x7 : List (List Int)), i + n = min x1.length 12 → x7.length ≤ i → (∀ y ∈ x7, y.length ≤ x5.length) → (n + 1) * (x5.length + 10) + C ≤ k →
    arboristlaw03_small.l1 k x1 x5 x7 (i : Int) = some (x5, Pl.sortU (x7 ++ ((x1.take 12).drop i).map (smallRow x5.length)))
  | n, i, 0, _, _, _, _, h => by
    have : 1 * (x5.length + 10) ≤ (n + 1) * (x5.length + 10) := Nat.mul_le_mul_right _ (by omega)
    omega
  | n, i, 1, _, _, _, _, h => by
    have : 1 * (x5.length + 10) ≤ (n + 1) * (x5.length + 10) := Nat.mul_le_mul_right _ (by omega)
    omega
  | 0, i, k + 2, x7, h, h7, h7M, hk => by
    have hs : arboristref01_Sort.f k x7 = some (Pl.sortU x7) := Sort_f x7 x5.length k (by omega) (by omega) h7M (by
      have h1 : (x7.length + 1) * (2 * x5.length + x7.length + 10) ≤ 21 * (2 * x5.length + 30) := Nat.mul_le_mul (by omega) (by omega)
      omega)
    have hd : (x1.take 12).drop i = [] := List.drop_of_length_le (by simp; omega)
    unfold arboristlaw03_small.l1 arboristlaw03_small.j3
    rw [hd]
    by_cases h1 : i < x1.length
    · rw [if_pos (by omega), decide_eq_false (by omega), if_neg (by simp), hs]; simp
    · rw [if_neg (by omega), if_neg (by simp), hs]; simp
  | n + 1, i, k + 2, x7, h, h7, h7M, hk => by
    have h1 : i < x1.length := by omega
    have h2 : i < 12 := by omega
    have e : (n + 1 + 1) * (x5.length + 10) = (n + 1) * (x5.length + 10) + (x5.length + 10) := by rw [Nat.add_mul (n + 1) 1, Nat.one_mul]
    unfold arboristlaw03_small.l1 arboristlaw03_small.j3
    rw [if_pos (by omega), decide_eq_true (by omega), if_pos rfl, if_pos (by omega), if_pos (by rw [Int.toNat_natCast]; omega), Int.toNat_natCast, ← rowTo_zero x5.length x1[i]]
    refine Small3_l2 x1 x5 x7 i x1[i] (rd_L1_get x1 i h1) h1 (by omega) (by omega) (by omega) _ ((n + 1) * (x5.length + 10) + C) (fun k' hk' => ?_) x5.length 0 k (by omega) (by omega)
    rw [Small3_l1 x1 x5 h5 C hC n (i + 1) k' _ (by omega) (by simp; omega) (fun y hy => by
      rcases List.mem_append.1 hy with hy | hy
      · exact h7M y hy
      · rw [List.mem_singleton.1 hy, smallRow_len]; exact Nat.le_refl _) hk']
    have hd : (x1.take 12).drop i = x1[i] :: (x1.take 12).drop (i + 1) := by
      rw [List.drop_eq_getElem_cons (by simp; omega)]; simp
    rw [hd]
    simp

theorem Small3_l0 (x0 : List Int) (x1 : List (List Int)) : ∀ n i k (x5 : List Int), i + n = min x0.length 3 → x5.length ≤ i → n + 3000 ≤ k →
    arboristlaw03_small.l0 k x0 x1 x5 (i : Int) = some (((x0.take 3).drop i).foldl (fun s v => uni1 s (md v 5)) x5, smallRows3 (((x0.take 3).drop i).foldl (fun s v => uni1 s (md v 5)) x5).length x1)
  | n, i, 0, _, _, _, h => by omega
  | 0, i, 1, x5, h, h5, hk => by omega
  | 0, i, k + 2, x5, h, h5, hk => by
    have hd : (x0.take 3).drop i = [] := List.drop_of_length_le (by simp; omega)
    have h4 : x5.length ≤ 3 := by omega
    have hj : arboristlaw03_small.j1 (k + 1) x1 x5 = some (x5, smallRows3 x5.length x1) := by
      unfold arboristlaw03_small.j1
      have hm : min x1.length 12 ≤ 12 := Nat.min_le_right _ _
      have h1 : (min x1.length 12 + 1) * (x5.length + 10) ≤ 21 * 14 := Nat.mul_le_mul (by omega) (by omega)
      have := Small3_l1 x1 x5 (by omega) 1008 (by omega) (min x1.length 12) 0 k [] (by omega) (by simp) (by simp) (by omega)
      simpa [smallRows3] using this
    unfold arboristlaw03_small.l0
    rw [hd]
    by_cases h1 : i < x0.length
    · rw [if_pos (by omega), if_neg (by omega), hj]; rfl
    · rw [if_neg (by omega), hj]; rfl
  | n + 1, i, k + 1, x5, h, h5, hk => by
    have h1 : i < x0.length := by omega
    have hd : (x0.take 3).drop i = rd x0 i :: (x0.take 3).drop (i + 1) := by
      rw [List.drop_eq_getElem_cons (by simp; omega), rd_get x0 i h1]; simp
    unfold arboristlaw03_small.l0
    rw [if_pos (by omega), if_pos (by omega), if_pos (by omega), Unite_f x5 _ k (by omega) (by simp) (by simp; omega)]
    simp only [Option.bind_some]
    rw [w1 i (by omega), hd, List.foldl_cons]
    exact Small3_l0 x0 x1 n (i + 1) k _ (by omega) (Nat.le_trans (uni1_len x5 _) (by omega)) (by omega)
theorem Small3_f (x0 : List Int) (x1 : List (List Int)) (k : Nat) (hk : 4000 ≤ k) : arboristlaw03_small.f k x0 x1 = some (smallS3 x0, smallRows3 (smallS3 x0).length x1) := by
  unfold arboristlaw03_small.f
  have hm : min x0.length 3 ≤ 3 := Nat.min_le_right _ _
  have := Small3_l0 x0 x1 (min x0.length 3) 0 k [] (by omega) (by simp) (by omega)
  simpa [smallS3] using this
theorem foldl_uni3 (l s : List Int) : (l.foldl (fun s v => uni1 s (md v 5)) s).length ≤ s.length + l.length ∧ (Rise s → Rise (l.foldl (fun s v => uni1 s (md v 5)) s)) ∧ ∀ x, x ∈ l.foldl (fun s v => uni1 s (md v 5)) s → x ∈ s ∨ ∃ v, x = md v 5 := by
  induction l generalizing s with
  | nil => exact ⟨Nat.le_refl _, id, fun x h => .inl h⟩
  | cons a l ih =>
    obtain ⟨h1, h2, h3⟩ := ih (uni1 s (md a 5))
    refine ⟨?_, fun h => h2 (uni1_rise _ _ h), fun x hx => ?_⟩
    · have := uni1_len s (md a 5)
      simp only [List.foldl_cons, List.length_cons]; omega
    · rcases h3 x hx with h | h
      · rcases (uni1_mem _ _ _).1 h with h | h
        · exact .inl h
        · exact .inr ⟨a, h⟩
      · exact .inr h
theorem smallS3_pos (l : List Int) : ∀ x ∈ smallS3 l, 0 ≤ x ∧ x < 5 := fun x hx => by
  rcases (foldl_uni3 (l.take 3) []).2.2 x hx with h | ⟨v, rfl⟩
  · simp at h
  · exact md_pos v 5 (by omega)
theorem smallS3_len (l : List Int) : (smallS3 l).length ≤ 3 := by
  have h := (foldl_uni3 (l.take 3) []).1
  have h2 : (l.take 3).length ≤ 3 := by simp; omega
  unfold smallS3
  simp only [List.length_nil] at h
  omega
theorem smallS3_rise (l : List Int) : Rise (smallS3 l) := (foldl_uni3 (l.take 3) []).2.1 List.Pairwise.nil
theorem smallRows3_up (n : Nat) (L : List (List Int)) : Pl.Up (smallRows3 n L) := Pl.sortU_up _
theorem smallRows3_len (n : Nat) (L : List (List Int)) : (smallRows3 n L).length ≤ 12 := by
  have := Pl.sortU_length_le ((L.take 12).map (smallRow n))
  unfold smallRows3
  simp only [List.length_map, List.length_take] at this
  omega
theorem smallRows3_row (n : Nat) (L : List (List Int)) : ∀ x ∈ smallRows3 n L, x.length = n := fun x hx => by
  unfold smallRows3 at hx
  rw [Pl.mem_sortU] at hx
  obtain ⟨t, _, rfl⟩ := List.mem_map.1 hx
  exact smallRow_len n t

theorem right_small3 (l : List Int) (L : List (List Int)) : RightP (smallS3 l) (smallRows3 (smallS3 l).length L) :=
  ⟨⟨smallS3_rise l, fun ⟨h, h'⟩ => by
    have := (smallS3_pos l (rd (smallS3 l) 0) (by rw [show (0 : Int) = ((0 : Nat) : Int) from rfl, rd_get _ 0 h]; exact List.getElem_mem h)).1
    omega⟩, smallRows3_row _ _, smallRows3_up _ _⟩
theorem right_none3 (l : List Int) : RightP (smallS3 l) [] := ⟨(right_small3 l []).1, by simp, List.Pairwise.nil⟩

theorem sz_small3 (sch : List Int) (rows : List (List Int)) : Sz (smallS3 sch) (smallRows3 (smallS3 sch).length rows) := by
  have h1 := smallS3_len sch
  refine ⟨by omega, by have := smallRows3_len (smallS3 sch).length rows; omega, fun x hx => ?_⟩
  rw [smallRows3_row _ _ x hx]; omega


theorem small3_is (A0 : Option Addr) (c0 : Nat) (sch : List Int) (A1 : Option Addr) (c1 : Nat) (rows : List (List Int)) (w : World) (hr0 : Kd.C KI w A0 sch.length sch) (hc0 : sch.length ≤ c0) (hr1 : Kd.C KL w A1 rows.length rows) (hc1 : rows.length ≤ c1) {SC : List Int} {L : List (List Int)} (hF : arboristlaw03_small.f 4000 sch rows = some (SC, L)) :
    Calls Tryd.prog 12 #[.slice A0 sch.length c0, .slice A1 rows.length c1] w fun e w' => RelTo w w' e SC L := by
  refine (arboristlaw03_small.calls 4000 A0 c0 sch A1 c1 rows SC L w hr0 hc0 hr1 hc1 hF).mono ?_
  rintro e w' ⟨v0, v1, rfl, hR, hN, hb⟩
  obtain ⟨A3, c3, rfl, hl3, hr3⟩ := Kd.R_reads hR
  obtain ⟨A4, c4, rfl, hl4, hr4⟩ := Kd.N_reads hN
  exact ⟨A3, c3, A4, c4, rfl, ⟨hr3, hl3, hr4, hl4⟩, hb⟩
end Go.Proofs.YtnmonjincnlhiaaDoor.G
