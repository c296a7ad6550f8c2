/- The document's answer for layer 1, as the print tells it: what its functions compute. -/
import Derived.Test.YtlinhcgggfdlpaaPRefsx4
import Derived.Test.YtlinhcgggfdlpaaPlain
import Derived.Test.YtlinhcgggfdlpaaRead2
set_option linter.unusedVariables false
set_option linter.unusedSimpArgs false
namespace Go.Proofs.Ytlinhcgggfdlpaa.G
open Go.RowKit Go.Proofs.YtlinhcgggfdlpaaW.PrintWords Go.Proofs.YtlinhcgggfdlpaaW.PrintLast Go.Proofs.YtlinhcgggfdlpaaW.PrintMore Go.Proofs.Ytlinhcgggfdlpaa.PRefs

theorem w1 (i : Nat) (h : i ≤ 1000000000000) : wrap64 ((i : Int) + 1) = ((i + 1 : Nat) : Int) := by rw [Go.IntWalk.wrap64_in _ (by omega)]; rfl

theorem In_l0 (x0 : List Int) (x1 : Int) (hl : x0.length ≤ 1000000000) : ∀ n i k, i + n = x0.length → n < k → arboristref01_In.l0 k x0 x1 (i : Int) = some (decide (x1 ∈ x0.drop i))
  | 0, i, 0, _, h => by omega
  | 0, i, k + 1, h, _ => by
    unfold arboristref01_In.l0
    rw [if_neg (by omega), List.drop_of_length_le (by omega)]; simp
  | n + 1, i, 0, _, h => by omega
  | n + 1, i, k + 1, h, hk => by
    unfold arboristref01_In.l0
    rw [if_pos (by omega), if_pos (by omega), drop_rd x0 i (by omega)]
    by_cases he : rd x0 (i : Int) = x1
    · rw [if_pos he]; simp [he]
    · rw [if_neg he, w1 i (by omega), In_l0 x0 x1 hl n (i + 1) k (by omega) (by omega)]
      simp [show ¬ x1 = rd x0 (i : Int) from fun h => he h.symm]
theorem In_f (l : List Int) (a : Int) (k : Nat) (hl : l.length ≤ 1000000000) (hk : l.length < k) : arboristref01_In.f k l a = some (decide (a ∈ l)) := by
  unfold arboristref01_In.f
  have := In_l0 l a hl l.length 0 k (by omega) hk
  simpa using this

theorem Without_l0 (x0 x1 : List Int) (hl : x0.length ≤ 1000000000) (hl1 : x1.length ≤ 1000000000) : ∀ n i k (x5 : List Int), i + n = x0.length → n + x1.length + 1 < k → x5.length ≤ i → arboristref01_Without.l0 k x0 x1 x5 (i : Int) = some (x5 ++ (x0.drop i).filter fun a => decide (a ∉ x1))
  | 0, i, 0, _, _, h, _ => by omega
  | 0, i, k + 1, x5, h, _, _ => by
    unfold arboristref01_Without.l0
    rw [if_neg (by omega), List.drop_of_length_le (by omega)]; simp
  | n + 1, i, 0, _, _, h, _ => by omega
  | n + 1, i, k + 1, x5, h, hk, h5 => by
    unfold arboristref01_Without.l0
    rw [if_pos (by omega), if_pos (by omega), drop_rd x0 i (by omega), In_f x1 _ k hl1 (by omega)]
    simp only [Option.bind_some]
    by_cases he : rd x0 (i : Int) ∈ x1
    · rw [if_pos (decide_eq_true he), w1 i (by omega), Without_l0 x0 x1 hl hl1 n (i + 1) k x5 (by omega) (by omega) (by omega)]
      simp [he]
    · rw [if_neg (by simp [he]), if_pos (by omega), w1 i (by omega), Without_l0 x0 x1 hl hl1 n (i + 1) k _ (by omega) (by omega) (by simp; omega)]
      simp [he]
theorem Without_f (l m : List Int) (k : Nat) (hl : l.length ≤ 1000000000) (hm : m.length ≤ 1000000000) (hk : l.length + m.length + 1 < k) : arboristref01_Without.f k l m = some (l.filter fun a => decide (a ∉ m)) := by
  unfold arboristref01_Without.f
  have := Without_l0 l m hl hm l.length 0 k [] (by omega) (by omega) (by simp)
  simpa using this

/-- Two rows that rise, each from where it is, put together. -/
def zip2 : List Int → List Int → List Int
  | [], m => m
  | l, [] => l
  | x :: l, y :: m => if x < y then x :: zip2 l (y :: m) else y :: zip2 (x :: l) m
  termination_by l m => l.length + m.length
theorem zip2_nil (l : List Int) : zip2 l [] = l := by cases l <;> unfold zip2 <;> rfl
theorem nil_zip2 (l : List Int) : zip2 [] l = l := by unfold zip2; rfl
theorem zip2_cons (x y : Int) (l m : List Int) : zip2 (x :: l) (y :: m) = if x < y then x :: zip2 l (y :: m) else y :: zip2 (x :: l) m := by rw [zip2]

theorem Unite_l0 (x0 x6 : List Int) (hl : x0.length ≤ 1000000000) (hl6 : x6.length ≤ 1000000000) : ∀ n i j k (x5 : List Int), i ≤ x0.length → j ≤ x6.length → i + j + n = x0.length + x6.length → 2 * n + 2 < k → x5.length ≤ i + j → arboristref01_Unite.l0 k x0 x5 x6 (i : Int) (j : Int) = some (x5 ++ zip2 (x0.drop i) (x6.drop j))
  | n, i, j, 0, _, _, _, _, h, _ => by omega
  | n, i, j, 1, _, _, _, _, h, _ => by omega
  | 0, i, j, k + 2, x5, hi, hj, h, _, _ => by
    unfold arboristref01_Unite.l0 arboristref01_Unite.j1
    rw [if_neg (by omega), decide_eq_false (by omega), List.drop_of_length_le (show x0.length ≤ i by omega), List.drop_of_length_le (show x6.length ≤ j by omega)]
    simp [zip2_nil]
  | n + 1, i, j, k + 2, x5, hi, hj, h, hk, h5 => by
    unfold arboristref01_Unite.l0 arboristref01_Unite.j1
    by_cases hi' : i < x0.length
    · rw [if_pos (by omega), if_pos rfl, drop_rd x0 i hi']
      by_cases hj' : j < x6.length
      · rw [if_neg (by omega), if_pos (by omega), if_pos (by omega), if_pos (by omega), if_pos (by omega), drop_rd x6 j hj', zip2_cons]
        by_cases hc : rd x0 (i : Int) < rd x6 (j : Int)
        · rw [if_pos hc, if_pos hc, if_pos (by omega), w1 i (by omega), Unite_l0 x0 x6 hl hl6 n (i + 1) j k _ (by omega) (by omega) (by omega) (by omega) (by simp; omega), drop_rd x6 j hj']
          simp
        · rw [if_neg hc, if_neg hc, if_pos (by omega), w1 j (by omega), Unite_l0 x0 x6 hl hl6 n i (j + 1) k _ (by omega) (by omega) (by omega) (by omega) (by simp; omega), drop_rd x0 i hi']
          simp
      · rw [if_pos (by omega), if_pos (by omega), if_pos (by omega), if_pos (by omega), w1 i (by omega), Unite_l0 x0 x6 hl hl6 n (i + 1) j k _ (by omega) (by omega) (by omega) (by omega) (by simp; omega), List.drop_of_length_le (show x6.length ≤ j by omega), zip2_nil, zip2_nil]
        simp
    · have hj' : j < x6.length := by omega
      rw [if_neg (by omega), decide_eq_true (by omega), if_pos rfl, if_neg (by omega), if_neg (by omega), if_pos (by omega), if_pos (by omega), if_pos (by omega), w1 j (by omega), Unite_l0 x0 x6 hl hl6 n i (j + 1) k _ (by omega) (by omega) (by omega) (by omega) (by simp; omega), List.drop_of_length_le (show x0.length ≤ i by omega), nil_zip2, nil_zip2, drop_rd x6 j hj']
      simp
theorem Unite_f (l m : List Int) (k : Nat) (hl : l.length ≤ 1000000000) (hm : m.length ≤ 1000000000) (hk : 2 * (l.length + m.length) + 3 < k) : arboristref01_Unite.f k l m = some (zip2 l (m.filter fun a => decide (a ∉ l))) := by
  unfold arboristref01_Unite.f
  have hfl : (m.filter fun a => decide (a ∉ l)).length ≤ m.length := List.length_filter_le _ _
  rw [Without_f m l k hm hl (by omega)]
  simp only [Option.bind_some]
  have := Unite_l0 l (m.filter fun a => decide (a ∉ l)) hl (by omega) (l.length + (m.filter fun a => decide (a ∉ l)).length) 0 0 k [] (by omega) (by omega) (by omega) (by omega) (by simp)
  simpa using this
theorem mem_zip2 (x : Int) (l m : List Int) : x ∈ zip2 l m ↔ x ∈ l ∨ x ∈ m := by
  induction l, m using zip2.induct with
  | case1 m => rw [nil_zip2]; simp
  | case2 l h => rw [zip2_nil]; simp
  | case3 a l b m h ih => rw [zip2_cons, if_pos h, List.mem_cons, ih]; simp only [List.mem_cons, or_assoc]
  | case4 a l b m h ih => rw [zip2_cons, if_neg h, List.mem_cons, ih]; simp only [List.mem_cons]; exact or_left_comm
theorem zip2_rise (l m : List Int) (hl : Rise l) (hm : Rise m) (hd : ∀ x ∈ l, x ∉ m) : Rise (zip2 l m) := by
  induction l, m using zip2.induct with
  | case1 m => rw [nil_zip2]; exact hm
  | case2 l h => rw [zip2_nil]; exact hl
  | case3 a l b m h ih =>
    obtain ⟨h1, h2⟩ := List.pairwise_cons.1 hl
    obtain ⟨h3, h4⟩ := List.pairwise_cons.1 hm
    rw [zip2_cons, if_pos h]
    refine List.pairwise_cons.2 ⟨fun y hy => ?_, ih h2 hm (fun x hx => hd x (List.mem_cons_of_mem _ hx))⟩
    rcases (mem_zip2 y l (b :: m)).1 hy with hy | hy
    · exact h1 y hy
    · rcases List.mem_cons.1 hy with e | hy
      · omega
      · have := h3 y hy; omega
  | case4 a l b m h ih =>
    obtain ⟨h1, h2⟩ := List.pairwise_cons.1 hl
    obtain ⟨h3, h4⟩ := List.pairwise_cons.1 hm
    have hne : a ≠ b := fun e => hd a List.mem_cons_self (e ▸ List.mem_cons_self)
    rw [zip2_cons, if_neg h]
    refine List.pairwise_cons.2 ⟨fun y hy => ?_, ih hl h4 (fun x hx hx' => hd x hx (List.mem_cons_of_mem _ hx'))⟩
    rcases (mem_zip2 y (a :: l) m).1 hy with hy | hy
    · rcases List.mem_cons.1 hy with e | hy
      · omega
      · have := h1 y hy; omega
    · exact h3 y hy
end Go.Proofs.Ytlinhcgggfdlpaa.G
