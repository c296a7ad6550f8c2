/- Several texts of this claim in one. -/
import Derived.Test.YtgpbhmcmbigbdaaGreatDoorPAll
import Derived.Test.YtgpbhmcmbigbdaaGreatDoorMA
/- The document's answer for layer 1, as the print tells it: what its functions compute. -/
set_option linter.unusedVariables false
set_option linter.unusedSimpArgs false
namespace Go.Proofs.YtgpbhmcmbigbdaaGreatDoor.G
open Go.RowKit Go.Proofs.YtgpbhmcmbigbdaaGreatDoorW.PrintWords Go.Proofs.YtgpbhmcmbigbdaaGreatDoorW.PrintLast Go.Proofs.YtgpbhmcmbigbdaaGreatDoorW.PrintMore Go.Proofs.YtgpbhmcmbigbdaaGreatDoor.PRefs

theorem w1 (i : Nat) (h : i ≤ 1000000000000) : wrap64 ((i : Int) + 1) = ((i + 1 : Nat) : Int) := by rw [Go.IntWalk.wrap64_in _ (by omega)]; rfl

theorem In_l0 (x0 : List Int) (x1 : Int) (hl : x0.length ≤ 1000000000) : ∀ n i k, i + n = x0.length → n < k → arboristref01_In.l0 k x0 x1 (i : Int) = some (decide (x1 ∈ x0.drop i))
  | 0, i, 0, _, h => by omega
  | 0, i, k + 1, h, _ => by
    unfold arboristref01_In.l0
    rw [if_neg (by omega), List.drop_of_length_le (by omega)]; simp
  | n + 1, i, 0, _, h => by omega
  | n + 1, i, k + 1, h, hk => by
    unfold arboristref01_In.l0
    rw [if_pos (by omega), if_pos (by omega), drop_rd x0 i (by omega)]
    by_cases he : rd x0 (i : Int) = x1
    · rw [if_pos he]; simp [he]
    · rw [if_neg he, w1 i (by omega), In_l0 x0 x1 hl n (i + 1) k (by omega) (by omega)]
      simp [show ¬ x1 = rd x0 (i : Int) from fun h => he h.symm]
theorem In_f (l : List Int) (a : Int) (k : Nat) (hl : l.length ≤ 1000000000) (hk : l.length < k) : arboristref01_In.f k l a = some (decide (a ∈ l)) := by
  unfold arboristref01_In.f
  have := In_l0 l a hl l.length 0 k (by omega) hk
  simpa using this

theorem Without_l0 (x0 x1 : List Int) (hl : x0.length ≤ 1000000000) (hl1 : x1.length ≤ 1000000000) : ∀ n i k (x5 : List Int), i + n = x0.length → n + x1.length + 1 < k → x5.length ≤ i → arboristref01_Without.l0 k x0 x1 x5 (i : Int) = some (x5 ++ (x0.drop i).filter fun a => decide (a ∉ x1))
  | 0, i, 0, _, _, h, _ => by omega
  | 0, i, k + 1, x5, h, _, _ => by
    unfold arboristref01_Without.l0
    rw [if_neg (by omega), List.drop_of_length_le (by omega)]; simp
  | n + 1, i, 0, _, _, h, _ => by omega
  | n + 1, i, k + 1, x5, h, hk, h5 => by
    unfold arboristref01_Without.l0
    rw [if_pos (by omega), if_pos (by omega), drop_rd x0 i (by omega), In_f x1 _ k hl1 (by omega)]
    simp only [Option.bind_some]
    by_cases he : rd x0 (i : Int) ∈ x1
    · rw [if_pos (decide_eq_true he), w1 i (by omega), Without_l0 x0 x1 hl hl1 n (i + 1) k x5 (by omega) (by omega) (by omega)]
      simp [he]
    · rw [if_neg (by simp [he]), if_pos (by omega), w1 i (by omega), Without_l0 x0 x1 hl hl1 n (i + 1) k _ (by omega) (by omega) (by simp; omega)]
      simp [he]
theorem Without_f (l m : List Int) (k : Nat) (hl : l.length ≤ 1000000000) (hm : m.length ≤ 1000000000) (hk : l.length + m.length + 1 < k) : arboristref01_Without.f k l m = some (l.filter fun a => decide (a ∉ m)) := by
  unfold arboristref01_Without.f
  have := Without_l0 l m hl hm l.length 0 k [] (by omega) (by omega) (by simp)
  simpa using this

def zip2 : List Int → List Int → List Int
  | [], m => m
  | l, [] => l
  | x :: l, y :: m => if x < y then x :: zip2 l (y :: m) else y :: zip2 (x :: l) m
  termination_by l m => l.length + m.length
theorem zip2_nil (l : List Int) : zip2 l [] = l := by cases l <;> unfold zip2 <;> rfl
theorem nil_zip2 (l : List Int) : zip2 [] l = l := by unfold zip2; rfl
theorem zip2_cons (x y : Int) (l m : List Int) : zip2 (x :: l) (y :: m) = if x < y then x :: zip2 l (y :: m) else y :: zip2 (x :: l) m := by rw [zip2]

theorem Unite_l0 (x0 x6 : List Int) (hl : x0.length ≤ 1000000000) (hl6 : x6.length ≤ 1000000000) : ∀ n i j k (x5 : List Int), i ≤ x0.length → j ≤ x6.length → i + j + n = x0.length + x6.length → 2 * n + 2 < k → x5.length ≤ i + j → arboristref01_Unite.l0 k x0 x5 x6 (i : Int) (j : Int) = some (x5 ++ zip2 (x0.drop i) (x6.drop j))
  | n, i, j, 0, _, _, _, _, h, _ => by omega
  | n, i, j, 1, _, _, _, _, h, _ => by omega
  | 0, i, j, k + 2, x5, hi, hj, h, _, _ => by
    unfold arboristref01_Unite.l0 arboristref01_Unite.j1
    rw [if_neg (by omega), decide_eq_false (by omega), List.drop_of_length_le (show x0.length ≤ i by omega), List.drop_of_length_le (show x6.length ≤ j by omega)]
    simp [zip2_nil]
  | n + 1, i, j, k + 2, x5, hi, hj, h, hk, h5 => by
    unfold arboristref01_Unite.l0 arboristref01_Unite.j1
    by_cases hi' : i < x0.length
    · rw [if_pos (by omega), if_pos rfl, drop_rd x0 i hi']
      by_cases hj' : j < x6.length
      · rw [if_neg (by omega), if_pos (by omega), if_pos (by omega), if_pos (by omega), if_pos (by omega), drop_rd x6 j hj', zip2_cons]
        by_cases hc : rd x0 (i : Int) < rd x6 (j : Int)
        · rw [if_pos hc, if_pos hc, if_pos (by omega), w1 i (by omega), Unite_l0 x0 x6 hl hl6 n (i + 1) j k _ (by omega) (by omega) (by omega) (by omega) (by simp; omega), drop_rd x6 j hj']
          simp
        · rw [if_neg hc, if_neg hc, if_pos (by omega), w1 j (by omega), Unite_l0 x0 x6 hl hl6 n i (j + 1) k _ (by omega) (by omega) (by omega) (by omega) (by simp; omega), drop_rd x0 i hi']
          simp
      · rw [if_pos (by omega), if_pos (by omega), if_pos (by omega), if_pos (by omega), w1 i (by omega), Unite_l0 x0 x6 hl hl6 n (i + 1) j k _ (by omega) (by omega) (by omega) (by omega) (by simp; omega), List.drop_of_length_le (show x6.length ≤ j by omega), zip2_nil, zip2_nil]
        simp
    · have hj' : j < x6.length := by omega
      rw [if_neg (by omega), decide_eq_true (by omega), if_pos rfl, if_neg (by omega), if_neg (by omega), if_pos (by omega), if_pos (by omega), if_pos (by omega), w1 j (by omega), Unite_l0 x0 x6 hl hl6 n i (j + 1) k _ (by omega) (by omega) (by omega) (by omega) (by simp; omega), List.drop_of_length_le (show x0.length ≤ i by omega), nil_zip2, nil_zip2, drop_rd x6 j hj']
      simp
theorem Unite_f (l m : List Int) (k : Nat) (hl : l.length ≤ 1000000000) (hm : m.length ≤ 1000000000) (hk : 2 * (l.length + m.length) + 3 < k) : arboristref01_Unite.f k l m = some (zip2 l (m.filter fun a => decide (a ∉ l))) := by
  unfold arboristref01_Unite.f
  have hfl : (m.filter fun a => decide (a ∉ l)).length ≤ m.length := List.length_filter_le _ _
  rw [Without_f m l k hm hl (by omega)]
  simp only [Option.bind_some]
  have := Unite_l0 l (m.filter fun a => decide (a ∉ l)) hl (by omega) (l.length + (m.filter fun a => decide (a ∉ l)).length) 0 0 k [] (by omega) (by omega) (by omega) (by omega) (by simp)
  simpa using this
theorem mem_zip2 (x : Int) (l m : List Int) : x ∈ zip2 l m ↔ x ∈ l ∨ x ∈ m := by
  induction l, m using zip2.induct with
  | case1 m => rw [nil_zip2]; simp
  | case2 l h => rw [zip2_nil]; simp
  | case3 a l b m h ih => rw [zip2_cons, if_pos h, List.mem_cons, ih]; simp only [List.mem_cons, or_assoc]
  | case4 a l b m h ih => rw [zip2_cons, if_neg h, List.mem_cons, ih]; simp only [List.mem_cons]; exact or_left_comm
theorem zip2_rise (l m : List Int) (hl : Rise l) (hm : Rise m) (hd : ∀ x ∈ l, x ∉ m) : Rise (zip2 l m) := by
  induction l, m using zip2.induct with
  | case1 m => rw [nil_zip2]; exact hm
  | case2 l h => rw [zip2_nil]; exact hl
  | case3 a l b m h ih =>
    obtain ⟨h1, h2⟩ := List.pairwise_cons.1 hl
    obtain ⟨h3, h4⟩ := List.pairwise_cons.1 hm
    rw [zip2_cons, if_pos h]
    refine List.pairwise_cons.2 ⟨fun y hy => ?_, ih h2 hm (fun x hx => hd x (List.mem_cons_of_mem _ hx))⟩
    rcases (mem_zip2 y l (b :: m)).1 hy with hy | hy
    · exact h1 y hy
    · rcases List.mem_cons.1 hy with e | hy
      · omega
      · have := h3 y hy; omega
  | case4 a l b m h ih =>
    obtain ⟨h1, h2⟩ := List.pairwise_cons.1 hl
    obtain ⟨h3, h4⟩ := List.pairwise_cons.1 hm
    have hne : a ≠ b := fun e => hd a List.mem_cons_self (e ▸ List.mem_cons_self)
    rw [zip2_cons, if_neg h]
    refine List.pairwise_cons.2 ⟨fun y hy => ?_, ih hl h4 (fun x hx hx' => hd x hx (List.mem_cons_of_mem _ hx'))⟩
    rcases (mem_zip2 y (a :: l) m).1 hy with hy | hy
    · rcases List.mem_cons.1 hy with e | hy
      · omega
      · have := h1 y hy; omega
    · exact h3 y hy
end Go.Proofs.YtgpbhmcmbigbdaaGreatDoor.G

/- The document's answer for layer 1: Compare, Copy, Sort. -/
set_option linter.unusedVariables false
set_option linter.unusedSimpArgs false
namespace Go.Proofs.YtgpbhmcmbigbdaaGreatDoor.G
open Go.RowKit Go.Proofs.YtgpbhmcmbigbdaaGreatDoorW.PrintWords Go.Proofs.YtgpbhmcmbigbdaaGreatDoorW.PrintLast Go.Proofs.YtgpbhmcmbigbdaaGreatDoorW.PrintMore Go.Proofs.YtgpbhmcmbigbdaaGreatDoor.PRefs

theorem Compare_l0 (x0 x1 : List Int) (hl : x0.length ≤ 1000000000) (hl1 : x1.length ≤ 1000000000) : ∀ n i k, i + n = x0.length → i ≤ x1.length → 2 * n + 2 < k → arboristref01_Compare.l0 k x0 x1 (i : Int) = some (Pl.cmp (x0.drop i) (x1.drop i))
  | n, i, 0, _, _, h => by omega
  | n, i, 1, _, _, h => by omega
  | 0, i, k + 2, h, h1, _ => by
    unfold arboristref01_Compare.l0 arboristref01_Compare.j1
    rw [if_neg (by omega), if_neg (by simp), List.drop_of_length_le (show x0.length ≤ i by omega)]
    by_cases hj : i < x1.length
    · rw [if_pos (by omega), drop_rd x1 i hj]; rfl
    · rw [if_neg (by omega), if_neg (by omega), List.drop_of_length_le (show x1.length ≤ i by omega)]; rfl
  | n + 1, i, k + 2, h, h1, hk => by
    unfold arboristref01_Compare.l0 arboristref01_Compare.j1
    rw [if_pos (by omega), drop_rd x0 i (by omega)]
    by_cases hj : i < x1.length
    · rw [decide_eq_true (by omega), if_pos rfl, if_pos (by omega), if_pos (by omega), if_pos (by omega), drop_rd x1 i hj]
      simp only [Pl.cmp]
      by_cases hc : rd x0 (i : Int) < rd x1 (i : Int)
      · rw [if_pos hc, if_pos hc]
      · rw [if_neg hc, if_neg hc]
        by_cases hc2 : rd x1 (i : Int) < rd x0 (i : Int)
        · rw [if_pos hc2, if_pos hc2]
        · rw [if_neg hc2, if_neg hc2, w1 i (by omega), Compare_l0 x0 x1 hl hl1 n (i + 1) k (by omega) (by omega) (by omega)]
    · rw [decide_eq_false (by omega), if_neg (by simp), if_neg (by omega), if_pos (by omega), List.drop_of_length_le (show x1.length ≤ i by omega)]; rfl
theorem Compare_f (l m : List Int) (k : Nat) (hl : l.length ≤ 1000000000) (hm : m.length ≤ 1000000000) (hk : 2 * l.length + 2 < k) : arboristref01_Compare.f k l m = some (Pl.cmp l m) := by
  unfold arboristref01_Compare.f
  have := Compare_l0 l m hl hm l.length 0 k (by omega) (by omega) hk
  simpa using this
theorem Copy_f (l : List Int) (hl : l.length ≤ 1000000000) : arboristref01_Copy.f l = some l := by
  unfold arboristref01_Copy.f
  simp only [Option.bind_some, List.length_nil, List.nil_append]
  rw [if_pos (by omega)]

theorem ins_at (x : List Int) : ∀ (L : List (List Int)) (j : Nat), (∀ y ∈ L.take j, Pl.lt y x) → Pl.ins x L = L.take j ++ Pl.ins x (L.drop j)
  | L, 0, _ => by simp
  | [], j + 1, _ => by simp
  | y :: L, j + 1, h => by
    have hy : Pl.lt y x := h y (by simp)
    have ih := ins_at x L j (fun z hz => h z (by simp [hz]))
    have h1 : ¬ Pl.lt x y := Pl.lt_asymm hy
    have h2 : ¬ x = y := fun e => Pl.lt_irrefl y (e ▸ hy)
    simp only [Pl.ins, if_neg h1, if_neg h2, List.take_succ_cons, List.drop_succ_cons, List.cons_append, ih]
theorem rd_L1_get (L : List (List Int)) (i : Nat) (h : i < L.length) : rd_L1 L (i : Int) = L[i] := by unfold rd_L1; rw [Int.toNat_natCast, List.getD_eq_getElem?_getD, List.getElem?_eq_getElem h]; rfl

theorem Sort_j2 (x0 x3 : List (List Int)) (M i j : Nat) (x : List Int) (hx : rd_L1 x0 (i : Int) = x) (hi : i < x0.length) (hl : x0.length ≤ 1000000000) (hl3 : x3.length ≤ 1000000000) (hM : M ≤ 1000000000) (hxM : x.length ≤ M) (h3M : ∀ y ∈ x3, y.length ≤ M)
    (hj : j ≤ x3.length) (ht : ∀ y ∈ x3.take j, Pl.lt y x) (hn : ∀ h : j < x3.length, ¬ Pl.lt x3[j] x) (r : List (List Int)) (K0 : Nat) (hr : ∀ k, K0 ≤ k → arboristref01_Sort.l0 k x0 (Pl.ins x x3) ((i + 1 : Nat) : Int) = some r) :
    ∀ k, K0 + 2 * M + 4 ≤ k → arboristref01_Sort.j2 k x0 x3 (i : Int) (j : Int) = some r
  | 0, hk => by omega
  | k + 1, hk => by
    have hins := ins_at x x3 j ht
    have hput : ∀ (B : List (List Int)), x3.drop j = B → Pl.ins x B = x :: B → arboristref01_Sort.l0 k x0 (([] ++ x3.take (j : Int).toNat) ++ [x] ++ x3.drop (j : Int).toNat) (wrap64 ((i : Int) + 1)) = some r := fun B hB hI => by
      rw [w1 i (by omega)]
      have := hr k (by omega)
      rw [hins, hB, hI] at this
      simpa [hB] using this
    unfold arboristref01_Sort.j2
    by_cases hlt : j < x3.length
    · rw [if_pos (by omega), if_pos (by omega), if_pos (by omega), if_pos (by omega), hx, rd_L1_get x3 j hlt, Compare_f _ _ k (by have := h3M _ (List.getElem_mem hlt); omega) (by omega) (by have := h3M _ (List.getElem_mem hlt); omega)]
      simp only [Option.bind_some, Copy_f x (by omega)]
      have hd := List.drop_eq_getElem_cons hlt
      by_cases hc : Pl.cmp x3[j] x = 0
      · have he := (Pl.cmp_eq _ _).1 hc
        rw [if_pos hc, w1 i (by omega)]
        have := hr k (by omega)
        rw [hins, hd] at this
        have h0 : Pl.ins x (x3[j] :: x3.drop (j + 1)) = x3[j] :: x3.drop (j + 1) := by
          simp only [Pl.ins]
          rw [if_neg (by rw [he]; exact Pl.lt_irrefl x), if_pos he.symm]
        rw [h0, ← hd, List.take_append_drop] at this
        exact this
      · have hgt : Pl.lt x x3[j] := by
          rcases Pl.lt_total x3[j] x with h | h | h
          · exact absurd h (hn hlt)
          · exact absurd ((Pl.cmp_eq _ _).2 h) hc
          · exact h
        have htl : (x3.take (j : Int).toNat).length ≤ 1000000000 := by simp; omega
        have hdl : (x3.drop (j : Int).toNat).length ≤ 1000000000 := by simp; omega
        rw [if_neg hc, if_pos (by omega), if_pos (by simp only [List.length_nil]; omega), if_pos (by simp only [List.nil_append]; omega), if_pos (by simp only [List.nil_append, List.length_append, List.length_singleton]; omega)]
        exact hput _ hd (by simp only [Pl.ins]; rw [if_pos hgt])
    · have hd : x3.drop j = [] := List.drop_of_length_le (by omega)
      have htl : (x3.take (j : Int).toNat).length ≤ 1000000000 := by simp; omega
      have hdl : (x3.drop (j : Int).toNat).length ≤ 1000000000 := by simp; omega
      rw [if_neg (by omega)]
      simp only [Option.bind_some]
      rw [if_pos (by omega), if_pos (by omega), if_pos (by simp only [List.length_nil]; omega), if_pos (by omega), if_pos (by omega), hx, Copy_f x (by omega)]
      simp only [Option.bind_some]
      rw [if_pos (by simp only [List.nil_append]; omega), if_pos (by simp only [List.nil_append, List.length_append, List.length_singleton]; omega)]
      exact hput [] hd rfl

theorem Sort_l1 (x0 x3 : List (List Int)) (M i : Nat) (x : List Int) (hx : rd_L1 x0 (i : Int) = x) (hi : i < x0.length) (hl : x0.length ≤ 1000000000) (hl3 : x3.length ≤ 1000000000) (hM : M ≤ 1000000000) (hxM : x.length ≤ M) (h3M : ∀ y ∈ x3, y.length ≤ M)
    (r : List (List Int)) (K0 : Nat) (hr : ∀ k, K0 ≤ k → arboristref01_Sort.l0 k x0 (Pl.ins x x3) ((i + 1 : Nat) : Int) = some r) :
    ∀ n j k, j + n = x3.length → (∀ y ∈ x3.take j, Pl.lt y x) → K0 + 2 * M + 5 + n ≤ k → arboristref01_Sort.l1 k x0 x3 (i : Int) (j : Int) = some r
  | n, j, 0, _, _, h => by omega
  | 0, j, k + 1, h, ht, hk => by
    unfold arboristref01_Sort.l1
    rw [if_neg (by omega)]
    exact Sort_j2 x0 x3 M i j x hx hi hl hl3 hM hxM h3M (by omega) ht (fun h' => by omega) r K0 hr k (by omega)
  | n + 1, j, k + 1, h, ht, hk => by
    have hlt : j < x3.length := by omega
    unfold arboristref01_Sort.l1
    rw [if_pos (by omega), if_pos (by omega), if_pos (by omega), if_pos (by omega), hx, rd_L1_get x3 j hlt, Compare_f _ _ k (by have := h3M _ (List.getElem_mem hlt); omega) (by omega) (by have := h3M _ (List.getElem_mem hlt); omega)]
    simp only [Option.bind_some]
    by_cases hc : Pl.cmp x3[j] x < 0
    · rw [if_pos hc, w1 j (by omega)]
      refine Sort_l1 x0 x3 M i x hx hi hl hl3 hM hxM h3M r K0 hr n (j + 1) k (by omega) (fun y hy => ?_) (by omega)
      rw [List.take_succ_eq_append_getElem hlt] at hy
      rcases List.mem_append.1 hy with hy | hy
      · exact ht y hy
      · rw [List.mem_singleton.1 hy]; exact (Pl.cmp_neg _ _).1 hc
    · rw [if_neg hc]
      exact Sort_j2 x0 x3 M i j x hx hi hl hl3 hM hxM h3M (by omega) ht (fun h' hlt' => hc ((Pl.cmp_neg _ _).2 hlt')) r K0 hr k (by omega)

theorem Sort_l0 (x0 : List (List Int)) (M : Nat) (hl : x0.length ≤ 1000000000) (hM : M ≤ 1000000000) (h0M : ∀ y ∈ x0, y.length ≤ M) :
    ∀ n i k (x3 : List (List Int)), i + n = x0.length → x3.length ≤ i → (∀ y ∈ x3, y.length ≤ M) → (n + 1) * (2 * M + x0.length + 10) ≤ k → arboristref01_Sort.l0 k x0 x3 (i : Int) = some ((x0.drop i).foldl (fun acc x => Pl.ins x acc) x3)
  | 0, i, 0, _, h, _, _, hk => by omega
  | 0, i, k + 1, x3, h, _, _, hk => by
    unfold arboristref01_Sort.l0
    rw [if_neg (by omega), List.drop_of_length_le (by omega)]; rfl
  | n + 1, i, 0, _, h, _, _, hk => by rw [Nat.add_mul] at hk; omega
  | n + 1, i, k + 1, x3, h, h3, h3M, hk => by
    have hlt : i < x0.length := by omega
    unfold arboristref01_Sort.l0
    rw [if_pos (by omega), List.drop_eq_getElem_cons hlt, List.foldl_cons]
    have hxM : x0[i].length ≤ M := h0M _ (List.getElem_mem hlt)
    refine Sort_l1 x0 x3 M i x0[i] (rd_L1_get x0 i hlt) hlt hl (by omega) hM hxM h3M _ ((n + 1) * (2 * M + x0.length + 10)) (fun k' hk' => Sort_l0 x0 M hl hM h0M n (i + 1) k' _ (by omega) (Nat.le_trans (Pl.ins_length_le _ _) (by omega)) (fun y hy => ?_) hk') x3.length 0 k (by omega) (fun y hy => by simp at hy) (by
      have e : (n + 1 + 1) * (2 * M + x0.length + 10) = (n + 1) * (2 * M + x0.length + 10) + (2 * M + x0.length + 10) := by rw [Nat.add_mul (n + 1) 1, Nat.one_mul]
      omega)
    rcases Pl.mem_ins.1 hy with e | e
    · rw [e]; exact hxM
    · exact h3M y e
theorem Sort_f (l : List (List Int)) (M k : Nat) (hl : l.length ≤ 1000000000) (hM : M ≤ 1000000000) (hlM : ∀ y ∈ l, y.length ≤ M) (hk : (l.length + 1) * (2 * M + l.length + 10) ≤ k) : arboristref01_Sort.f k l = some (Pl.sortU l) := by
  unfold arboristref01_Sort.f
  have := Sort_l0 l M hl hM hlM l.length 0 k [] (by omega) (by simp) (by simp) hk
  simpa [Pl.sortU] using this
end Go.Proofs.YtgpbhmcmbigbdaaGreatDoor.G

/- The law's Small, as the print tells it: what it computes. -/
set_option linter.unusedVariables false
set_option linter.unusedSimpArgs false
namespace Go.Proofs.YtgpbhmcmbigbdaaGreatDoor.G
open Go.RowKit Go.Proofs.YtgpbhmcmbigbdaaGreatDoorW.PrintWords Go.Proofs.YtgpbhmcmbigbdaaGreatDoorW.PrintLast Go.Proofs.YtgpbhmcmbigbdaaGreatDoorW.PrintMore Go.Proofs.YtgpbhmcmbigbdaaGreatDoor.PRefs

def md (v q : Int) : Int := Int.tmod (Go.bits .and .i64 v 65535) q
def uni1 (s : List Int) (m : Int) : List Int := zip2 s ([m].filter fun a => decide (a ∉ s))
def rowTo (n : Nat) (row : List Int) (j : Nat) : List Int := (List.range n).map fun q => if q < j ∧ q < row.length then md (rd row q) 3 else 0
def smallRow (n : Nat) (row : List Int) : List Int := (List.range n).map fun q => if q < row.length then md (rd row q) 3 else 0
theorem rowTo_zero (n : Nat) (row : List Int) : rowTo n row 0 = List.replicate n 0 := by
  refine List.ext_getElem (by simp [rowTo]) fun i h1 h2 => ?_
  simp [rowTo]
theorem rowTo_len (n : Nat) (row : List Int) (j : Nat) : (rowTo n row j).length = n := by simp [rowTo]
theorem smallRow_len (n : Nat) (row : List Int) : (smallRow n row).length = n := by simp [smallRow]
theorem rowTo_set (n : Nat) (row : List Int) (j : Nat) (hj : j < n) (hr : j < row.length) : (rowTo n row j).set j (md (rd row j) 3) = rowTo n row (j + 1) := by
  refine List.ext_getElem (by simp [rowTo]) fun i h1 h2 => ?_
  rw [List.getElem_set]
  simp only [rowTo, List.getElem_map, List.getElem_range]
  by_cases e : j = i
  · subst e; rw [if_pos rfl, if_pos ⟨by omega, hr⟩]
  · rw [if_neg e]
    by_cases h : i < j ∧ i < row.length
    · rw [if_pos h, if_pos ⟨by omega, h.2⟩]
    · rw [if_neg h, if_neg (fun h' => h ⟨by omega, h'.2⟩)]
theorem rowTo_end (n : Nat) (row : List Int) (j : Nat) (h : n ≤ j ∨ row.length ≤ j) : rowTo n row j = smallRow n row := by
  refine List.ext_getElem (by simp [rowTo, smallRow]) fun i h1 h2 => ?_
  have hi : i < n := by simpa [rowTo] using h1
  simp only [rowTo, smallRow, List.getElem_map, List.getElem_range]
  by_cases h' : i < row.length
  · rw [if_pos h', if_pos ⟨by omega, h'⟩]
  · rw [if_neg h', if_neg (fun h => h' h.2)]

theorem uni1_mem (s : List Int) (m x : Int) : x ∈ uni1 s m ↔ x ∈ s ∨ x = m := by
  unfold uni1
  rw [mem_zip2]
  simp only [List.mem_filter, List.mem_singleton, decide_eq_true_eq]
  constructor
  · rintro (h | ⟨h, _⟩)
    · exact .inl h
    · exact .inr h
  · rintro (h | h)
    · exact .inl h
    · by_cases hx : x ∈ s
      · exact .inl hx
      · exact .inr ⟨h, hx⟩
theorem zip2_len (l m : List Int) : (zip2 l m).length = l.length + m.length := by
  induction l, m using zip2.induct with
  | case1 m => rw [nil_zip2]; simp
  | case2 l h => rw [zip2_nil]; simp
  | case3 a l b m h ih => rw [zip2_cons, if_pos h, List.length_cons, ih]; simp; omega
  | case4 a l b m h ih => rw [zip2_cons, if_neg h, List.length_cons, ih]; simp; omega
theorem uni1_len (s : List Int) (m : Int) : (uni1 s m).length ≤ s.length + 1 := by
  unfold uni1
  rw [zip2_len]
  have : ([m].filter fun a => decide (a ∉ s)).length ≤ [m].length := List.length_filter_le _ _
  simp only [List.length_singleton] at this
  omega
theorem uni1_rise (s : List Int) (m : Int) (h : Rise s) : Rise (uni1 s m) := by
  unfold uni1
  refine zip2_rise _ _ h ?_ (fun x hx hx' => ?_)
  · exact (List.pairwise_singleton _ m).sublist List.filter_sublist
  · rw [List.mem_filter] at hx'
    exact (of_decide_eq_true hx'.2) hx

end Go.Proofs.YtgpbhmcmbigbdaaGreatDoor.G
