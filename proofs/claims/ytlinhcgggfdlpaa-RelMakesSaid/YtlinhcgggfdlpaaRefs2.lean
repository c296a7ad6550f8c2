/- The document's answer for layer 1: Compare, Copy, Sort. -/
import Derived.Test.YtlinhcgggfdlpaaRefs
set_option linter.unusedVariables false
set_option linter.unusedSimpArgs false
namespace Go.Proofs.Ytlinhcgggfdlpaa.G
open Go.RowKit Go.Proofs.YtlinhcgggfdlpaaW.PrintWords Go.Proofs.YtlinhcgggfdlpaaW.PrintLast Go.Proofs.YtlinhcgggfdlpaaW.PrintMore Go.Proofs.Ytlinhcgggfdlpaa.PRefs

theorem Compare_l0 (x0 x1 : List Int) (hl : x0.length ≤ 1000000000) (hl1 : x1.length ≤ 1000000000) : ∀ n i k, i + n = x0.length → i ≤ x1.length → 2 * n + 2 < k → arboristref01_Compare.l0 k x0 x1 (i : Int) = some (Pl.cmp (x0.drop i) (x1.drop i))
  | n, i, 0, _, _, h => by omega
  | n, i, 1, _, _, h => by omega
  | 0, i, k + 2, h, h1, _ => by
    unfold arboristref01_Compare.l0 arboristref01_Compare.j1
    rw [if_neg (by omega), if_neg (by simp), List.drop_of_length_le (show x0.length ≤ i by omega)]
    by_cases hj : i < x1.length
    · rw [if_pos (by omega), drop_rd x1 i hj]; rfl
    · rw [if_neg (by omega), if_neg (by omega), List.drop_of_length_le (show x1.length ≤ i by omega)]; rfl
  | n + 1, i, k + 2, h, h1, hk => by
    unfold arboristref01_Compare.l0 arboristref01_Compare.j1
    rw [if_pos (by omega), drop_rd x0 i (by omega)]
    by_cases hj : i < x1.length
    · rw [decide_eq_true (by omega), if_pos rfl, if_pos (by omega), if_pos (by omega), if_pos (by omega), drop_rd x1 i hj]
      simp only [Pl.cmp]
      by_cases hc : rd x0 (i : Int) < rd x1 (i : Int)
      · rw [if_pos hc, if_pos hc]
      · rw [if_neg hc, if_neg hc]
        by_cases hc2 : rd x1 (i : Int) < rd x0 (i : Int)
        · rw [if_pos hc2, if_pos hc2]
        · rw [if_neg hc2, if_neg hc2, w1 i (by omega), Compare_l0 x0 x1 hl hl1 n (i + 1) k (by omega) (by omega) (by omega)]
    · rw [decide_eq_false (by omega), if_neg (by simp), if_neg (by omega), if_pos (by omega), List.drop_of_length_le (show x1.length ≤ i by omega)]; rfl
theorem Compare_f (l m : List Int) (k : Nat) (hl : l.length ≤ 1000000000) (hm : m.length ≤ 1000000000) (hk : 2 * l.length + 2 < k) : arboristref01_Compare.f k l m = some (Pl.cmp l m) := by
  unfold arboristref01_Compare.f
  have := Compare_l0 l m hl hm l.length 0 k (by omega) (by omega) hk
  simpa using this
theorem Copy_f (l : List Int) (hl : l.length ≤ 1000000000) : arboristref01_Copy.f l = some l := by
  unfold arboristref01_Copy.f
  simp only [Option.bind_some, List.length_nil, List.nil_append]
  rw [if_pos (by omega)]

theorem ins_at (x : List Int) : ∀ (L : List (List Int)) (j : Nat), (∀ y ∈ L.take j, Pl.lt y x) → Pl.ins x L = L.take j ++ Pl.ins x (L.drop j)
  | L, 0, _ => by simp
  | [], j + 1, _ => by simp
  | y :: L, j + 1, h => by
    have hy : Pl.lt y x := h y (by simp)
    have ih := ins_at x L j (fun z hz => h z (by simp [hz]))
    have h1 : ¬ Pl.lt x y := Pl.lt_asymm hy
    have h2 : ¬ x = y := fun e => Pl.lt_irrefl y (e ▸ hy)
    simp only [Pl.ins, if_neg h1, if_neg h2, List.take_succ_cons, List.drop_succ_cons, List.cons_append, ih]
theorem rd_L1_get (L : List (List Int)) (i : Nat) (h : i < L.length) : rd_L1 L (i : Int) = L[i] := by unfold rd_L1; rw [Int.toNat_natCast, List.getD_eq_getElem?_getD, List.getElem?_eq_getElem h]; rfl

theorem Sort_j2 (x0 x3 : List (List Int)) (M i j : Nat) (x : List Int) (hx : rd_L1 x0 (i : Int) = x) (hi : i < x0.length) (hl : x0.length ≤ 1000000000) (hl3 : x3.length ≤ 1000000000) (hM : M ≤ 1000000000) (hxM : x.length ≤ M) (h3M : ∀ y ∈ x3, y.length ≤ M)
    (hj : j ≤ x3.length) (ht : ∀ y ∈ x3.take j, Pl.lt y x) (hn : ∀ h : j < x3.length, ¬ Pl.lt x3[j] x) (r : List (List Int)) (K0 : Nat) (hr : ∀ k, K0 ≤ k → arboristref01_Sort.l0 k x0 (Pl.ins x x3) ((i + 1 : Nat) : Int) = some r) :
    ∀ k, K0 + 2 * M + 4 ≤ k → arboristref01_Sort.j2 k x0 x3 (i : Int) (j : Int) = some r
  | 0, hk => by omega
  | k + 1, hk => by
    have hins := ins_at x x3 j ht
    have hput : ∀ (B : List (List Int)), x3.drop j = B → Pl.ins x B = x :: B → arboristref01_Sort.l0 k x0 (([] ++ x3.take (j : Int).toNat) ++ [x] ++ x3.drop (j : Int).toNat) (wrap64 ((i : Int) + 1)) = some r := fun B hB hI => by
      rw [w1 i (by omega)]
      have := hr k (by omega)
      rw [hins, hB, hI] at this
      simpa [hB] using this
    unfold arboristref01_Sort.j2
    by_cases hlt : j < x3.length
    · rw [if_pos (by omega), if_pos (by omega), if_pos (by omega), if_pos (by omega), hx, rd_L1_get x3 j hlt, Compare_f _ _ k (by have := h3M _ (List.getElem_mem hlt); omega) (by omega) (by have := h3M _ (List.getElem_mem hlt); omega)]
      simp only [Option.bind_some, Copy_f x (by omega)]
      have hd := List.drop_eq_getElem_cons hlt
      by_cases hc : Pl.cmp x3[j] x = 0
      · have he := (Pl.cmp_eq _ _).1 hc
        rw [if_pos hc, w1 i (by omega)]
        have := hr k (by omega)
        rw [hins, hd] at this
        have h0 : Pl.ins x (x3[j] :: x3.drop (j + 1)) = x3[j] :: x3.drop (j + 1) := by
          simp only [Pl.ins]
          rw [if_neg (by rw [he]; exact Pl.lt_irrefl x), if_pos he.symm]
        rw [h0, ← hd, List.take_append_drop] at this
        exact this
      · have hgt : Pl.lt x x3[j] := by
          rcases Pl.lt_total x3[j] x with h | h | h
          · exact absurd h (hn hlt)
          · exact absurd ((Pl.cmp_eq _ _).2 h) hc
          · exact h
        have htl : (x3.take (j : Int).toNat).length ≤ 1000000000 := by simp; omega
        have hdl : (x3.drop (j : Int).toNat).length ≤ 1000000000 := by simp; omega
        rw [if_neg hc, if_pos (by omega), if_pos (by simp only [List.length_nil]; omega), if_pos (by simp only [List.nil_append]; omega), if_pos (by simp only [List.nil_append, List.length_append, List.length_singleton]; omega)]
        exact hput _ hd (by simp only [Pl.ins]; rw [if_pos hgt])
    · have hd : x3.drop j = [] := List.drop_of_length_le (by omega)
      have htl : (x3.take (j : Int).toNat).length ≤ 1000000000 := by simp; omega
      have hdl : (x3.drop (j : Int).toNat).length ≤ 1000000000 := by simp; omega
      rw [if_neg (by omega)]
      simp only [Option.bind_some]
      rw [if_pos (by omega), if_pos (by omega), if_pos (by simp only [List.length_nil]; omega), if_pos (by omega), if_pos (by omega), hx, Copy_f x (by omega)]
      simp only [Option.bind_some]
      rw [if_pos (by simp only [List.nil_append]; omega), if_pos (by simp only [List.nil_append, List.length_append, List.length_singleton]; omega)]
      exact hput [] hd rfl

theorem Sort_l1 (x0 x3 : List (List Int)) (M i : Nat) (x : List Int) (hx : rd_L1 x0 (i : Int) = x) (hi : i < x0.length) (hl : x0.length ≤ 1000000000) (hl3 : x3.length ≤ 1000000000) (hM : M ≤ 1000000000) (hxM : x.length ≤ M) (h3M : ∀ y ∈ x3, y.length ≤ M)
    (r : List (List Int)) (K0 : Nat) (hr : ∀ k, K0 ≤ k → arboristref01_Sort.l0 k x0 (Pl.ins x x3) ((i + 1 : Nat) : Int) = some r) :
    ∀ n j k, j + n = x3.length → (∀ y ∈ x3.take j, Pl.lt y x) → K0 + 2 * M + 5 + n ≤ k → arboristref01_Sort.l1 k x0 x3 (i : Int) (j : Int) = some r
  | n, j, 0, _, _, h => by omega
  | 0, j, k + 1, h, ht, hk => by
    unfold arboristref01_Sort.l1
    rw [if_neg (by omega)]
    exact Sort_j2 x0 x3 M i j x hx hi hl hl3 hM hxM h3M (by omega) ht (fun h' => by omega) r K0 hr k (by omega)
  | n + 1, j, k + 1, h, ht, hk => by
    have hlt : j < x3.length := by omega
    unfold arboristref01_Sort.l1
    rw [if_pos (by omega), if_pos (by omega), if_pos (by omega), if_pos (by omega), hx, rd_L1_get x3 j hlt, Compare_f _ _ k (by have := h3M _ (List.getElem_mem hlt); omega) (by omega) (by have := h3M _ (List.getElem_mem hlt); omega)]
    simp only [Option.bind_some]
    by_cases hc : Pl.cmp x3[j] x < 0
    · rw [if_pos hc, w1 j (by omega)]
      refine Sort_l1 x0 x3 M i x hx hi hl hl3 hM hxM h3M r K0 hr n (j + 1) k (by omega) (fun y hy => ?_) (by omega)
      rw [List.take_succ_eq_append_getElem hlt] at hy
      rcases List.mem_append.1 hy with hy | hy
      · exact ht y hy
      · rw [List.mem_singleton.1 hy]; exact (Pl.cmp_neg _ _).1 hc
    · rw [if_neg hc]
      exact Sort_j2 x0 x3 M i j x hx hi hl hl3 hM hxM h3M (by omega) ht (fun h' hlt' => hc ((Pl.cmp_neg _ _).2 hlt')) r K0 hr k (by omega)

theorem Sort_l0 (x0 : List (List Int)) (M : Nat) (hl : x0.length ≤ 1000000000) (hM : M ≤ 1000000000) (h0M : ∀ y ∈ x0, y.length ≤ M) :
    ∀ n i k (x3 : List (List Int)), i + n = x0.length → x3.length ≤ i → (∀ y ∈ x3, y.length ≤ M) → (n + 1) * (2 * M + x0.length + 10) ≤ k → arboristref01_Sort.l0 k x0 x3 (i : Int) = some ((x0.drop i).foldl (fun acc x => Pl.ins x acc) x3)
  | 0, i, 0, _, h, _, _, hk => by omega
  | 0, i, k + 1, x3, h, _, _, hk => by
    unfold arboristref01_Sort.l0
    rw [if_neg (by omega), List.drop_of_length_le (by omega)]; rfl
  | n + 1, i, 0, _, h, _, _, hk => by rw [Nat.add_mul] at hk; omega
  | n + 1, i, k + 1, x3, h, h3, h3M, hk => by
    have hlt : i < x0.length := by omega
    unfold arboristref01_Sort.l0
    rw [if_pos (by omega), List.drop_eq_getElem_cons hlt, List.foldl_cons]
    have hxM : x0[i].length ≤ M := h0M _ (List.getElem_mem hlt)
    refine Sort_l1 x0 x3 M i x0[i] (rd_L1_get x0 i hlt) hlt hl (by omega) hM hxM h3M _ ((n + 1) * (2 * M + x0.length + 10)) (fun k' hk' => Sort_l0 x0 M hl hM h0M n (i + 1) k' _ (by omega) (Nat.le_trans (Pl.ins_length_le _ _) (by omega)) (fun y hy => ?_) hk') x3.length 0 k (by omega) (fun y hy => by simp at hy) (by
      have e : (n + 1 + 1) * (2 * M + x0.length + 10) = (n + 1) * (2 * M + x0.length + 10) + (2 * M + x0.length + 10) := by rw [Nat.add_mul (n + 1) 1, Nat.one_mul]
      omega)
    rcases Pl.mem_ins.1 hy with e | e
    · rw [e]; exact hxM
    · exact h3M y e
theorem Sort_f (l : List (List Int)) (M k : Nat) (hl : l.length ≤ 1000000000) (hM : M ≤ 1000000000) (hlM : ∀ y ∈ l, y.length ≤ M) (hk : (l.length + 1) * (2 * M + l.length + 10) ≤ k) : arboristref01_Sort.f k l = some (Pl.sortU l) := by
  unfold arboristref01_Sort.f
  have := Sort_l0 l M hl hM hlM l.length 0 k [] (by omega) (by simp) (by simp) hk
  simpa [Pl.sortU] using this
end Go.Proofs.Ytlinhcgggfdlpaa.G
