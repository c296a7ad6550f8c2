/- Several texts of this claim in one. -/
import Derived.Test.YtlmkgghpaaadhaaGreatDoorMY
/- weigh: what falls to no variables at all. -/
set_option linter.unusedVariables false
set_option linter.unusedSimpArgs false
namespace Go.Proofs.YtlmkgghpaaadhaaGreatDoor.G
open Go.RowKit Go.Proofs.YtlmkgghpaaadhaaGreatDoorW.PrintWords Go.Proofs.YtlmkgghpaaadhaaGreatDoorW.PrintLast Go.Proofs.YtlmkgghpaaadhaaGreatDoorW.PrintMore

def nilRows (L : List (List Int)) : List (List Int) := if L = [] then [] else [[]]
theorem sortU_nils : ∀ (n : Nat), Pl.sortU (List.replicate (n + 1) ([] : List Int)) = [[]]
  | 0 => rfl
  | n + 1 => by
    have h := sortU_nils n
    unfold Pl.sortU at h ⊢
    rw [List.replicate_succ', List.foldl_append, h]
    rfl
theorem onto_nil {sc : List Int} (h : Rise sc) : onto sc [] = [] := by rw [onto_eq _ _ h]; simp
theorem proj_nil {sc : List Int} (h : Rise sc) (L : List (List Int)) : projRel sc L [] = ([], nilRows L) := by
  rw [projRel, onto_nil h, cutRows]
  have e : (L.map fun t => pick t ([].map (idx sc))) = List.replicate L.length [] := by
    refine List.ext_getElem (by simp) fun i h1 h2 => ?_
    simp [pick]
  rw [e]
  unfold nilRows
  match L with
  | [] => rfl
  | x :: L => rw [List.length_cons, sortU_nils, if_neg (by simp)]
theorem zip_snd {L : List (List Int)} {ws : List Int} (h : ws.length = L.length) : (L.zip ws).map Prod.snd = ws := List.map_snd_zip (by omega)
/-- All rows fall to the row of nothing. -/
theorem parted_nil {sc : List Int} {L : List (List Int)} {ws : List Int} (h : ws.length = L.length) : partedTo ⟨sc, L, ws⟩ [] (nilRows L) = if L = [] then [] else [ws] := by
  unfold partedTo nilRows
  by_cases hL : L = []
  · rw [if_pos hL, if_pos hL]; rfl
  · rw [if_neg hL, if_neg hL]
    show [collect sc L ws [] [[]] 0] = [ws]
    unfold collect
    have e : ((L.zip ws).filter fun p => decide (pick p.1 (([] : List Int).map (idx sc)) ∈ ([[]] : List (List Int)) ∧ pos [[]] (pick p.1 (([] : List Int).map (idx sc))) = 0)) = L.zip ws := by
      refine List.filter_eq_self.2 fun p _ => ?_
      have e1 : pick p.1 (([] : List Int).map (idx sc)) = [] := by simp [pick]
      rw [e1]
      decide
    rw [e, zip_snd h]
theorem sum_nil {sc : List Int} {L : List (List Int)} {ws : List Int} (h : ws.length = L.length) (hL : L ≠ []) (ht : tot ws ≤ 4611686018427387904) : sumTo ⟨sc, L, ws⟩ [] (nilRows L) = (⟨[], [[]], [ws.sum]⟩, 0) := by
  unfold sumTo
  rw [parted_nil h, if_neg hL, if_pos (by simpa using ht)]
  simp [nilRows, hL]
theorem min_nil {sc : List Int} {L : List (List Int)} {ws : List Int} (h : ws.length = L.length) (hL : L ≠ []) : minTo ⟨sc, L, ws⟩ [] (nilRows L) = ⟨[], [[]], [least ws]⟩ := by
  unfold minTo
  rw [parted_nil h, if_neg hL]
  simp [nilRows, hL]
theorem sum_none {sc : List Int} {ws : List Int} (h : ws.length = 0) : sumTo ⟨sc, [], ws⟩ [] (nilRows []) = (⟨[], [], []⟩, 0) := by
  unfold sumTo
  rw [parted_nil (L := []) h, if_pos rfl]
  rfl
theorem min_none {sc : List Int} {ws : List Int} (h : ws.length = 0) : minTo ⟨sc, [], ws⟩ [] (nilRows []) = ⟨[], [], []⟩ := by
  unfold minTo
  rw [parted_nil (L := []) h, if_pos rfl]
  rfl
theorem tot_rep (n : Nat) (x : Int) : tot (List.replicate n x) = n * (x.natAbs : Int) := by
  induction n with
  | zero => simp [tot]
  | succ n ih => rw [List.replicate_succ]; simp only [tot, List.map_cons, List.sum_cons] at ih ⊢; rw [ih]; simp [Int.add_mul]; omega
theorem sum_rep (n : Nat) (x : Int) : (List.replicate n x).sum = n * x := by
  induction n with
  | zero => simp
  | succ n ih => rw [List.replicate_succ, List.sum_cons, ih]; simp [Int.add_mul]; omega
theorem least_rep (n : Nat) (x : Int) : least (List.replicate (n + 1) x) = x := by
  rw [List.replicate_succ]
  simp only [least]
  induction n with
  | zero => rfl
  | succ n ih => rw [List.replicate_succ, List.foldl_cons, show min x x = x by omega, ih]
end Go.Proofs.YtlmkgghpaaadhaaGreatDoor.G

/- weigh: summed part by part it is the same. -/
set_option linter.unusedVariables false
set_option linter.unusedSimpArgs false
namespace Go.Proofs.YtlmkgghpaaadhaaGreatDoor.G
open Go.RowKit Go.Proofs.YtlmkgghpaaadhaaGreatDoorW.PrintWords Go.Proofs.YtlmkgghpaaadhaaGreatDoorW.PrintLast Go.Proofs.YtlmkgghpaaadhaaGreatDoorW.PrintMore

theorem range_one (n k : Nat) (x : Int) (f : Nat → Int) : ((List.range n).map fun j => (if k = j then x + f j else f j)).sum = (if k < n then x else 0) + ((List.range n).map f).sum := by
  induction n with
  | zero => simp
  | succ n ih =>
    rw [List.range_succ, List.map_append, List.map_append, List.sum_append, List.sum_append, ih]
    simp only [List.map_cons, List.map_nil, List.sum_cons, List.sum_nil]
    by_cases h1 : k = n
    · subst h1
      simp; omega
    · rw [if_neg h1]
      by_cases h2 : k < n
      · rw [if_pos h2, if_pos (by omega)]; omega
      · rw [if_neg h2, if_neg (by omega)]; omega
theorem zeros_sum (n : Nat) : ((List.range n).map fun _ => (0 : Int)).sum = 0 := by
  induction n with
  | zero => rfl
  | succ n ih => rw [List.range_succ, List.map_append, List.sum_append, ih]; rfl
theorem fib_sum {α : Type} (ok : α → Prop) [DecidablePred ok] (key : α → Nat) (n : Nat) : ∀ (Z : List (α × Int)), (∀ p ∈ Z, ok p.1 ∧ key p.1 < n) →
    ((List.range n).map fun j => ((Z.filter fun p => decide (ok p.1 ∧ key p.1 = j)).map Prod.snd).sum).sum = (Z.map Prod.snd).sum
  | [], _ => by
    simp only [List.filter_nil, List.map_nil, List.sum_nil]
    exact zeros_sum n
  | p :: Z, h => by
    have h0 := h p (List.mem_cons_self ..)
    have ih := fib_sum ok key n Z (fun q hq => h q (List.mem_cons_of_mem _ hq))
    have e : (fun j => (((p :: Z).filter fun p => decide (ok p.1 ∧ key p.1 = j)).map Prod.snd).sum) = fun j => if key p.1 = j then p.2 + ((Z.filter fun p => decide (ok p.1 ∧ key p.1 = j)).map Prod.snd).sum else ((Z.filter fun p => decide (ok p.1 ∧ key p.1 = j)).map Prod.snd).sum := by
      funext j
      rw [List.filter_cons]
      by_cases hj : key p.1 = j
      · rw [if_pos hj, if_pos (decide_eq_true ⟨h0.1, hj⟩), List.map_cons, List.sum_cons]
      · rw [if_neg hj, if_neg (by simp [hj])]
    rw [e, range_one, if_pos h0.2, ih, List.map_cons, List.sum_cons]
/-- The sums of the parts sum up to the whole. -/
theorem parted_sum {sc : List Int} {L : List (List Int)} {ws on : List Int} {R : List (List Int)} (hl : ws.length = L.length) (h : ∀ t ∈ L, pick t (on.map (idx sc)) ∈ R) : ((partedTo ⟨sc, L, ws⟩ on R).map List.sum).sum = ws.sum := by
  unfold partedTo
  rw [List.map_map]
  have e := fib_sum (fun t : List Int => pick t (on.map (idx sc)) ∈ R) (fun t => pos R (pick t (on.map (idx sc)))) R.length (L.zip ws) (fun p hp => by
    have hm := h p.1 (List.of_mem_zip hp).1
    exact ⟨hm, pos_lt hm⟩)
  rw [zip_snd hl] at e
  exact e
theorem tot_filter (l : List (List Int × Int)) (p : List Int × Int → Bool) : tot ((l.filter p).map Prod.snd) ≤ tot (l.map Prod.snd) := by
  induction l with
  | nil => simp [tot]
  | cons x l ih =>
    rw [List.filter_cons]
    split
    · simp only [tot, List.map_cons, List.sum_cons] at ih ⊢; omega
    · simp only [tot, List.map_cons, List.sum_cons] at ih ⊢; omega
theorem parted_tot {sc : List Int} {L : List (List Int)} {ws on : List Int} {R : List (List Int)} (hl : ws.length = L.length) : ∀ l ∈ partedTo ⟨sc, L, ws⟩ on R, tot l ≤ tot ws := fun l hl' => by
  obtain ⟨j, _, rfl⟩ := List.mem_map.1 hl'
  have h := tot_filter (L.zip ws) (fun p => decide (pick p.1 (on.map (idx sc)) ∈ R ∧ pos R (pick p.1 (on.map (idx sc))) = j))
  rw [zip_snd hl] at h
  exact h
end Go.Proofs.YtlmkgghpaaadhaaGreatDoor.G

/- weigh: the least of the parts' least is the least. -/
set_option linter.unusedVariables false
set_option linter.unusedSimpArgs false
namespace Go.Proofs.YtlmkgghpaaadhaaGreatDoor.G
open Go.RowKit Go.Proofs.YtlmkgghpaaadhaaGreatDoorW.PrintWords Go.Proofs.YtlmkgghpaaadhaaGreatDoorW.PrintLast Go.Proofs.YtlmkgghpaaadhaaGreatDoorW.PrintMore

theorem foldl_min (l : List Int) : ∀ x : Int, (l.foldl min x = x ∨ l.foldl min x ∈ l) ∧ l.foldl min x ≤ x ∧ ∀ y ∈ l, l.foldl min x ≤ y := by
  induction l with
  | nil => intro x; exact ⟨.inl rfl, Int.le_refl _, fun y hy => by cases hy⟩
  | cons a l ih =>
    intro x
    obtain ⟨h1, h2, h3⟩ := ih (min x a)
    rw [List.foldl_cons]
    refine ⟨?_, by omega, fun y hy => ?_⟩
    · rcases h1 with h1 | h1
      · by_cases hxa : x ≤ a
        · left; rw [h1]; omega
        · right; rw [h1, show min x a = a by omega]; exact List.mem_cons_self ..
      · exact .inr (List.mem_cons_of_mem _ h1)
    · rcases List.mem_cons.1 hy with rfl | hy
      · omega
      · exact h3 y hy
theorem least_min {l : List Int} (h : l ≠ []) : least l ∈ l ∧ ∀ y ∈ l, least l ≤ y := by
  match l with
  | x :: l =>
    obtain ⟨h1, h2, h3⟩ := foldl_min l x
    refine ⟨?_, fun y hy => ?_⟩
    · rcases h1 with h1 | h1
      · show l.foldl min x ∈ x :: l
        rw [h1]; exact List.mem_cons_self ..
      · exact List.mem_cons_of_mem _ h1
    · rcases List.mem_cons.1 hy with rfl | hy
      · exact h2
      · exact h3 y hy
theorem least_uniq {l : List Int} {m : Int} (hm : m ∈ l) (h : ∀ y ∈ l, m ≤ y) : least l = m := by
  have h1 := least_min (l := l) (fun e => by rw [e] at hm; cases hm)
  have h2 := h1.2 m hm
  have h3 := h _ h1.1
  omega
theorem parted_mem {sc : List Int} {L : List (List Int)} {ws on : List Int} {R : List (List Int)} (hl : ws.length = L.length) : ∀ l ∈ partedTo ⟨sc, L, ws⟩ on R, ∀ y ∈ l, y ∈ ws := fun l hl' y hy => by
  obtain ⟨j, _, rfl⟩ := List.mem_map.1 hl'
  obtain ⟨p, hp, rfl⟩ := List.mem_map.1 hy
  exact (List.of_mem_zip (List.mem_filter.1 hp).1).2
theorem parted_least {sc : List Int} {L : List (List Int)} {ws on : List Int} {R : List (List Int)} (hl : ws.length = L.length) (hL : L ≠ []) (h : ∀ t ∈ L, pick t (on.map (idx sc)) ∈ R) (hne : ∀ l ∈ partedTo ⟨sc, L, ws⟩ on R, l ≠ []) :
    least ((partedTo ⟨sc, L, ws⟩ on R).map least) = least ws := by
  have hws : ws ≠ [] := fun e => hL (List.eq_nil_of_length_eq_zero (by rw [← hl, e]; rfl))
  have hw := least_min hws
  refine least_uniq ?_ fun y hy => ?_
  · have hz : least ws ∈ (L.zip ws).map Prod.snd := by rw [zip_snd hl]; exact hw.1
    obtain ⟨p, hp, hpe⟩ := List.mem_map.1 hz
    have hm := h p.1 (List.of_mem_zip hp).1
    have hj : collect sc L ws on R (pos R (pick p.1 (on.map (idx sc)))) ∈ partedTo ⟨sc, L, ws⟩ on R := List.mem_map.2 ⟨_, List.mem_range.2 (pos_lt hm), rfl⟩
    have hin : least ws ∈ collect sc L ws on R (pos R (pick p.1 (on.map (idx sc)))) := by
      rw [← hpe]
      exact List.mem_map.2 ⟨p, List.mem_filter.2 ⟨hp, decide_eq_true ⟨hm, rfl⟩⟩, rfl⟩
    refine List.mem_map.2 ⟨_, hj, ?_⟩
    exact least_uniq hin (fun y hy => hw.2 y (parted_mem hl _ hj y hy))
  · obtain ⟨l, hl', rfl⟩ := List.mem_map.1 hy
    exact hw.2 _ (parted_mem hl _ hl' _ (least_min (hne l hl')).1)
theorem pos_self {R : List (List Int)} (h : Pl.Up R) (j : Nat) (hj : j < R.length) : pos R R[j] = j := by
  have hp := List.pairwise_iff_getElem.1 h
  refine pos_of (Nat.le_of_lt hj) (fun k hk => ?_) (fun k hk hkl => ?_)
  · rw [getD_get _ _ (by omega)]; exact hp k j (by omega) hj hk
  · rw [getD_get _ _ hkl]
    by_cases e : k = j
    · subst e; exact Pl.lt_irrefl _
    · exact Pl.lt_asymm (hp j k hj hkl (by omega))
/-- No part is empty. -/
theorem parted_full {sc : List Int} {L : List (List Int)} {ws on : List Int} (hl : ws.length = L.length) : ∀ l ∈ partedTo ⟨sc, L, ws⟩ on (cutRows sc L on), l ≠ [] := fun l hl' e => by
  obtain ⟨j, hj, rfl⟩ := List.mem_map.1 hl'
  have hj := List.mem_range.1 hj
  have hup : Pl.Up (cutRows sc L on) := Pl.sortU_up _
  have hm : (cutRows sc L on)[j] ∈ cutRows sc L on := List.getElem_mem hj
  have hm' := hm
  unfold cutRows at hm'
  rw [Pl.mem_sortU] at hm'
  obtain ⟨t, ht, hte⟩ := List.mem_map.1 hm'
  have hte : pick t (on.map (idx sc)) = (cutRows sc L on)[j] := hte
  obtain ⟨i, hi, rfl⟩ := List.getElem_of_mem ht
  have hz : (L[i], ws[i]'(by omega)) ∈ L.zip ws := by
    rw [List.mem_iff_getElem]
    exact ⟨i, by simp; omega, by simp⟩
  have hin : ws[i]'(by omega) ∈ collect sc L ws on (cutRows sc L on) j := List.mem_map.2 ⟨_, List.mem_filter.2 ⟨hz, decide_eq_true ⟨by rw [hte]; exact hm, by rw [hte]; exact pos_self hup j hj⟩⟩, rfl⟩
  have e : collect sc L ws on (cutRows sc L on) j = [] := e
  rw [e] at hin
  cases hin
theorem parted_in_R {sc : List Int} {L : List (List Int)} {on : List Int} : ∀ t ∈ L, pick t (on.map (idx sc)) ∈ cutRows sc L on := fun t ht => by
  unfold cutRows
  rw [Pl.mem_sortU]
  exact List.mem_map.2 ⟨t, ht, rfl⟩
end Go.Proofs.YtlmkgghpaaadhaaGreatDoor.G

/- weigh: one row of no variables. -/
set_option linter.unusedVariables false
set_option linter.unusedSimpArgs false
namespace Go.Proofs.YtlmkgghpaaadhaaGreatDoor.G
open Go.RowKit Go.Proofs.YtlmkgghpaaadhaaGreatDoorW.PrintWords Go.Proofs.YtlmkgghpaaadhaaGreatDoorW.PrintLast Go.Proofs.YtlmkgghpaaadhaaGreatDoorW.PrintMore

theorem uni_nn : uni ([] : List Int) [] = [] := by simp [uni, merge]
theorem w_unit (a : Int) : weightOf [] [[]] [a] [] [] = a := by
  unfold weightOf
  rw [if_pos (by simp [pick]; decide)]
  have e : pos [[]] (pick [] (([] : List Int).map (idx []))) = 0 := by decide
  rw [e]; rfl
theorem edge_j (f : WF) (a b : Int) : joinedTo f ⟨[], [[]], [a]⟩ ⟨[], [[]], [b]⟩ 1 = if (f a b).2 = true then (⟨[], [[]], [(f a b).1]⟩, 0) else (⟨[], [], []⟩, 11) := by
  unfold joinedTo wRow
  simp only [s4_uu, uni_nn]
  rw [if_pos (by decide)]
  simp only [List.map_cons, List.map_nil, w_unit]
  by_cases h : (f a b).2 = true
  · rw [if_pos h, if_pos (by intro t ht; rw [List.mem_singleton] at ht; subst ht; rw [w_unit, w_unit]; exact h)]
  · rw [if_neg h, if_neg (fun h' => h (by have := h' [] (List.mem_singleton.2 rfl); rwa [w_unit, w_unit] at this))]
theorem edge_plus {a b : Int} (ha : a.natAbs ≤ 4611686018427387904) (hb : b.natAbs ≤ 4611686018427387904) : joinedTo fPlus ⟨[], [[]], [a]⟩ ⟨[], [[]], [b]⟩ 1 = if (a + b).natAbs ≤ 4611686018427387904 then (⟨[], [[]], [a + b]⟩, 0) else (⟨[], [], []⟩, 11) := by
  rw [edge_j]
  unfold fPlus fitsN
  by_cases h : (a + b).natAbs ≤ 4611686018427387904
  · rw [if_pos (decide_eq_true h), if_pos h]
    show ((⟨[], [[]], [wrap64 (a + b)]⟩ : WRel), (0 : Int)) = _
    rw [Go.IntWalk.wrap64_in _ (by omega)]
  · rw [if_neg (by simpa using h), if_neg h]
theorem edge_one {a : Int} (ha : a.natAbs ≤ 4611686018427387904) : joinedTo fTimes ⟨[], [[]], [a]⟩ ⟨[], [[]], [1]⟩ 1 = (⟨[], [[]], [a]⟩, 0) := by
  rw [edge_j]
  unfold fTimes fitsN
  rw [Int.mul_one, if_pos (decide_eq_true ha), Go.IntWalk.wrap64_in _ (by omega)]
theorem edge_sum {a b : Int} : sumTo ⟨[0], [[0], [1]], [a, b]⟩ [] (nilRows [[0], [1]]) = if (a.natAbs : Int) + b.natAbs ≤ 4611686018427387904 then (⟨[], [[]], [a + b]⟩, 0) else (⟨[], [], []⟩, 11) := by
  have ht : tot [a, b] = (a.natAbs : Int) + b.natAbs := by simp [tot]
  by_cases h : (a.natAbs : Int) + b.natAbs ≤ 4611686018427387904
  · rw [if_pos h, sum_nil rfl (by simp) (by rw [ht]; exact h)]
    simp
  · rw [if_neg h]
    unfold sumTo
    rw [parted_nil (sc := [0]) (L := [[0], [1]]) (ws := [a, b]) rfl, if_neg (show ¬ ([[0], [1]] : List (List Int)) = [] by simp), if_neg (fun h' => h (by rw [← ht]; exact h' [a, b] (by simp)))]
end Go.Proofs.YtlmkgghpaaadhaaGreatDoor.G

/- weigh: what goes together of two that share nothing. -/
set_option linter.unusedVariables false
set_option linter.unusedSimpArgs false
namespace Go.Proofs.YtlmkgghpaaadhaaGreatDoor.G
open Go.RowKit Go.Proofs.YtlmkgghpaaadhaaGreatDoorW.PrintWords Go.Proofs.YtlmkgghpaaadhaaGreatDoorW.PrintLast Go.Proofs.YtlmkgghpaaadhaaGreatDoorW.PrintMore

theorem fm_congr {α β : Type} {l : List α} {f g : α → List β} (h : ∀ x ∈ l, f x = g x) : l.flatMap f = l.flatMap g := by
  induction l with
  | nil => rfl
  | cons x l ih => rw [List.flatMap_cons, List.flatMap_cons, h x (List.mem_cons_self ..), ih fun y hy => h y (List.mem_cons_of_mem _ hy)]
/-- The weight that stands where a row does. -/
def wAt (L : List (List Int)) (ws : List Int) (t : List Int) : Int := rd ws (pos L t : Int)
theorem map_wAt {L : List (List Int)} {ws : List Int} (hU : Pl.Up L) (hl : ws.length = L.length) : L.map (wAt L ws) = ws := by
  refine List.ext_getElem (by simp [hl]) fun i h1 h2 => ?_
  rw [List.getElem_map]
  unfold wAt
  rw [pos_self hU i (by simpa using h1), rd_get _ _ h2]
theorem weight_left {sc sd : List Int} {L M : List (List Int)} {ws : List Int} (h : RightP sc L) (h' : RightP sd M) (hl : ws.length = L.length) {t u : List Int} (ht : t ∈ L) (hu : u ∈ M) (hf : fits sc sd t u = true) : weightOf sc L ws (uni sc sd) (bothRow sc sd t u) = wAt L ws t := by
  have e : pick (bothRow sc sd t u) (sc.map (idx (uni sc sd))) = t := by
    rw [pick_look (uni sc sd) _ sc (by simp [bothRow]) (fun v hv => mem_uni.2 (.inl hv))]
    exact (both_back h h' ht hu hf).1
  unfold weightOf
  rw [e, if_pos ⟨ht, by rw [hl]; exact pos_lt ht⟩]
  rfl
theorem weight_right {sc sd : List Int} {L M : List (List Int)} {ws : List Int} (h : RightP sc L) (h' : RightP sd M) (hl : ws.length = M.length) {t u : List Int} (ht : t ∈ L) (hu : u ∈ M) (hf : fits sc sd t u = true) : weightOf sd M ws (uni sc sd) (bothRow sc sd t u) = wAt M ws u := by
  have e : pick (bothRow sc sd t u) (sd.map (idx (uni sc sd))) = u := by
    rw [pick_look (uni sc sd) _ sd (by simp [bothRow]) (fun v hv => mem_uni.2 (.inr hv))]
    exact (both_back h h' ht hu hf).2
  unfold weightOf
  rw [e, if_pos ⟨hu, by rw [hl]; exact pos_lt hu⟩]
  rfl
theorem fits_apart {sc sd : List Int} (hd : ∀ v ∈ sc, v ∉ sd) (t u : List Int) : fits sc sd t u = true := decide_eq_true fun v hv hv' => absurd hv' (hd v hv)
theorem join_perm {sc sd : List Int} {L M : List (List Int)} (h : RightP sc L) (h' : RightP sd M) (hd : ∀ v ∈ sc, v ∉ sd) : (joinRows sc L sd M).Perm (L.flatMap fun t => M.map (bothRow sc sd t)) := by
  have e : (L.flatMap fun t => (M.filter (fits sc sd t)).map (bothRow sc sd t)) = L.flatMap fun t => M.map (bothRow sc sd t) := by
    have e1 : (fun t => (M.filter (fits sc sd t)).map (bothRow sc sd t)) = fun t => M.map (bothRow sc sd t) := by
      funext t
      rw [List.filter_eq_self.2 fun u _ => fits_apart hd t u]
    rw [e1]
  rw [← e]
  exact (List.perm_ext_iff_of_nodup (joinRows_up sc L sd M).nodup (join_nodup h h')).2 fun a => Pl.mem_sortU
theorem join_weights {sc sd : List Int} {L M : List (List Int)} {wa wb : List Int} (h : RightP sc L) (h' : RightP sd M) (hl : wa.length = L.length) (hl' : wb.length = M.length) (hd : ∀ v ∈ sc, v ∉ sd) (f : WF) :
    ((joinRows sc L sd M).map fun t => wRow f sc L wa sd M wb t).Perm (wa.flatMap fun x => wb.map fun y => f x y) := by
  refine ((join_perm h h' hd).map _).trans ?_
  rw [List.map_flatMap]
  have e : (L.flatMap fun t => (M.map (bothRow sc sd t)).map fun t => wRow f sc L wa sd M wb t) = wa.flatMap fun x => wb.map fun y => f x y := by
    have e1 : (L.flatMap fun t => (M.map (bothRow sc sd t)).map fun t => wRow f sc L wa sd M wb t) = L.flatMap fun t => M.map fun u => f (wAt L wa t) (wAt M wb u) := by
      refine fm_congr fun t ht => ?_
      rw [List.map_map]
      refine List.map_congr_left fun u hu => ?_
      show wRow f sc L wa sd M wb (bothRow sc sd t u) = _
      unfold wRow
      rw [weight_left h h' hl ht hu (fits_apart hd t u), weight_right h h' hl' ht hu (fits_apart hd t u)]
    rw [e1]
    conv => rhs; rw [← map_wAt h.2.2 hl, ← map_wAt h'.2.2 hl', List.flatMap_map]
    simp only [List.map_map]
    rfl
  rw [e]
theorem join_len0 {sc sd : List Int} {L M : List (List Int)} (h : RightP sc L) (h' : RightP sd M) (hd : ∀ v ∈ sc, v ∉ sd) : (joinRows sc L sd M).length = L.length * M.length := by
  rw [(join_perm h h' hd).length_eq, flatMap_len_eq L _ M.length fun t _ => by simp]
/-- Two that share nothing, each row with each. -/
theorem joined_apart {f : WF} {a b : WRel} {most : Int} (h : RightP a.sc a.L) (h' : RightP b.sc b.L) (hl : a.ws.length = a.L.length) (hl' : b.ws.length = b.L.length) (hd : ∀ v ∈ a.sc, v ∉ b.sc)
    (hf : ∀ x ∈ a.ws, ∀ y ∈ b.ws, (f x y).2 = true) (hm : (a.L.length : Int) * b.L.length ≤ most) :
    ∃ P : WRel, joinedTo f a b most = (P, 0) ∧ P.sc = uni a.sc b.sc ∧ P.L = joinRows a.sc a.L b.sc b.L ∧ P.ws.length = P.L.length ∧ P.L.length = a.L.length * b.L.length ∧ P.ws.Perm (a.ws.flatMap fun x => b.ws.map fun y => (f x y).1) := by
  have hw := join_weights h h' hl hl' hd f
  have hlen := join_len0 h h' hd
  refine ⟨⟨uni a.sc b.sc, joinRows a.sc a.L b.sc b.L, (joinRows a.sc a.L b.sc b.L).map fun t => (wRow f a.sc a.L a.ws b.sc b.L b.ws t).1⟩, ?_, rfl, rfl, by simp, hlen, ?_⟩
  · unfold joinedTo
    rw [if_pos (by rw [hlen]; exact_mod_cast hm), if_pos]
    intro t ht
    have hm1 : wRow f a.sc a.L a.ws b.sc b.L b.ws t ∈ (joinRows a.sc a.L b.sc b.L).map fun t => wRow f a.sc a.L a.ws b.sc b.L b.ws t := List.mem_map.2 ⟨t, ht, rfl⟩
    rw [hw.mem_iff, List.mem_flatMap] at hm1
    obtain ⟨x, hx, hm1⟩ := hm1
    obtain ⟨y, hy, hm1⟩ := List.mem_map.1 hm1
    rw [← hm1]
    exact hf x hx y hy
  · have hw2 := hw.map Prod.fst
    rw [List.map_map, List.map_flatMap] at hw2
    simp only [List.map_map] at hw2
    exact hw2
theorem perm_sum {l m : List Int} (h : l.Perm m) : l.sum = m.sum := by
  induction h with
  | nil => rfl
  | cons x _ ih => simp [ih]
  | swap x y l => simp only [List.sum_cons]; omega
  | trans _ _ h1 h2 => exact h1.trans h2
theorem perm_tot {l m : List Int} (h : l.Perm m) : tot l = tot m := perm_sum (h.map _)
theorem sum_mul_left (x : Int) (l : List Int) : (l.map fun y => x * y).sum = x * l.sum := by
  induction l with
  | nil => simp
  | cons y l ih => simp only [List.map_cons, List.sum_cons, ih, Int.mul_add]
theorem sum_prod (l m : List Int) : (l.flatMap fun x => m.map fun y => x * y).sum = l.sum * m.sum := by
  induction l with
  | nil => simp
  | cons x l ih => rw [List.flatMap_cons, List.sum_append, ih, sum_mul_left, List.sum_cons, Int.add_mul]
theorem tot_prod (l m : List Int) : tot (l.flatMap fun x => m.map fun y => x * y) = tot l * tot m := by
  unfold tot
  rw [← sum_prod, List.map_flatMap, List.flatMap_map]
  simp only [List.map_map]
  congr 1
  refine fm_congr fun x _ => List.map_congr_left fun y _ => ?_
  show ((x * y).natAbs : Int) = (x.natAbs : Int) * (y.natAbs : Int)
  rw [Int.natAbs_mul]; rfl
theorem tot_le {l : List Int} {k : Int} (h : ∀ x ∈ l, (x.natAbs : Int) ≤ k) : tot l ≤ l.length * k := by
  induction l with
  | nil => simp [tot]
  | cons x l ih =>
    have h1 := h x (List.mem_cons_self ..)
    have h2 := ih fun y hy => h y (List.mem_cons_of_mem _ hy)
    simp only [tot, List.map_cons, List.sum_cons, List.length_cons] at h2 ⊢
    have : ((l.length + 1 : Nat) : Int) * k = l.length * k + k := by push_cast; rw [Int.add_mul, Int.one_mul]
    omega
/-- Small weights of few rows. -/
structure Few4 (a : WRel) : Prop where
  r : RightP a.sc a.L
  l : a.ws.length = a.L.length
  n : a.L.length ≤ 12
  w : ∀ x ∈ a.ws, (x.natAbs : Int) ≤ 999
theorem Few4.tot {a : WRel} (h : Few4 a) : G.tot a.ws ≤ 11988 := by
  have h1 := tot_le h.w
  have h2 := h.n
  have h3 := h.l
  have h4 : ((a.ws.length : Nat) : Int) ≤ 12 := by omega
  have h5 : (a.ws.length : Int) * 999 ≤ 12 * 999 := Int.mul_le_mul_of_nonneg_right h4 (by omega)
  omega
theorem Few4.mul {a b : WRel} (h : Few4 a) (h' : Few4 b) : (a.L.length : Int) * b.L.length ≤ 1000 := by
  have h1 := h.n
  have h2 := h'.n
  have h3 := Nat.mul_le_mul h1 h2
  have h4 : ((a.L.length * b.L.length : Nat) : Int) ≤ 1000 := by omega
  rw [Int.natCast_mul] at h4
  exact h4
theorem small_prod {x y : Int} (hx : (x.natAbs : Int) ≤ 999) (hy : (y.natAbs : Int) ≤ 999) : ((x * y).natAbs : Int) ≤ 998001 := by
  rw [Int.natAbs_mul]
  have h1 : x.natAbs ≤ 999 := by omega
  have h2 : y.natAbs ≤ 999 := by omega
  have h3 := Nat.mul_le_mul h1 h2
  omega
theorem fTimes_small {x y : Int} (h : ((x * y).natAbs : Int) ≤ 4611686018427387904) : fTimes x y = (x * y, true) := by
  unfold fTimes fitsN
  rw [Go.IntWalk.wrap64_in _ (by omega), decide_eq_true (by omega)]
theorem fPlus_small {x y : Int} (hx : (x.natAbs : Int) ≤ 999) (hy : (y.natAbs : Int) ≤ 999) : fPlus x y = (x + y, true) := by
  unfold fPlus fitsN
  rw [Go.IntWalk.wrap64_in _ (by omega), decide_eq_true (by omega)]
theorem flatMap_congr2 {l m : List Int} {f g : Int → Int → Int} (h : ∀ x ∈ l, ∀ y ∈ m, f x y = g x y) : (l.flatMap fun x => m.map fun y => f x y) = l.flatMap fun x => m.map fun y => g x y :=
  fm_congr fun x hx => List.map_congr_left fun y hy => h x hx y hy
/-- The sum of products is the product of sums. -/
theorem parts_times {a b : WRel} (h : Few4 a) (h' : Few4 b) (hd : ∀ v ∈ a.sc, v ∉ b.sc) :
    ∃ P : WRel, joinedTo fTimes a b 1000 = (P, 0) ∧ P.sc = uni a.sc b.sc ∧ RightP P.sc P.L ∧ P.ws.length = P.L.length ∧ P.L.length = a.L.length * b.L.length ∧ P.ws.sum = a.ws.sum * b.ws.sum ∧ tot P.ws ≤ 1000000000 ∧ InW P.ws := by
  obtain ⟨P, h1, h2, h3, h4, h5, h6⟩ := joined_apart (f := fTimes) h.r h'.r h.l h'.l hd (fun x hx y hy => by rw [fTimes_small (by have := small_prod (h.w x hx) (h'.w y hy); omega)]) (h.mul h')
  have e : (a.ws.flatMap fun x => b.ws.map fun y => (fTimes x y).1) = a.ws.flatMap fun x => b.ws.map fun y => x * y := flatMap_congr2 fun x hx y hy => by rw [fTimes_small (by have := small_prod (h.w x hx) (h'.w y hy); omega)]
  rw [e] at h6
  refine ⟨P, h1, h2, by rw [h2, h3]; exact right_join h.r h'.r, h4, h5, by rw [perm_sum h6, sum_prod], ?_, fun x hx => ?_⟩
  · rw [perm_tot h6, tot_prod]
    have h7 := h.tot
    have h8 := h'.tot
    have h9 := tot_nonneg a.ws
    have h10 : tot a.ws * tot b.ws ≤ 11988 * 11988 := Int.mul_le_mul h7 h8 (tot_nonneg _) (by omega)
    omega
  · rw [h6.mem_iff, List.mem_flatMap] at hx
    obtain ⟨y, hy, hx⟩ := hx
    obtain ⟨z, hz, rfl⟩ := List.mem_map.1 hx
    have := small_prod (h.w y hy) (h'.w z hz)
    omega
theorem least_plus {l m : List Int} (hl : l ≠ []) (hm : m ≠ []) {W : List Int} (h : W.Perm (l.flatMap fun x => m.map fun y => x + y)) : least W = least l + least m := by
  have h1 := least_min hl
  have h2 := least_min hm
  refine least_uniq ?_ fun z hz => ?_
  · rw [h.mem_iff, List.mem_flatMap]
    exact ⟨_, h1.1, List.mem_map.2 ⟨_, h2.1, rfl⟩⟩
  · rw [h.mem_iff, List.mem_flatMap] at hz
    obtain ⟨x, hx, hz⟩ := hz
    obtain ⟨y, hy, rfl⟩ := List.mem_map.1 hz
    have := h1.2 x hx
    have := h2.2 y hy
    omega
theorem parts_plus {a b : WRel} (h : Few4 a) (h' : Few4 b) (hd : ∀ v ∈ a.sc, v ∉ b.sc) :
    ∃ P : WRel, joinedTo fPlus a b 1000 = (P, 0) ∧ P.sc = uni a.sc b.sc ∧ RightP P.sc P.L ∧ P.ws.length = P.L.length ∧ P.L.length = a.L.length * b.L.length ∧ (a.ws ≠ [] → b.ws ≠ [] → least P.ws = least a.ws + least b.ws) := by
  obtain ⟨P, h1, h2, h3, h4, h5, h6⟩ := joined_apart (f := fPlus) h.r h'.r h.l h'.l hd (fun x hx y hy => by rw [fPlus_small (h.w x hx) (h'.w y hy)]) (h.mul h')
  have e : (a.ws.flatMap fun x => b.ws.map fun y => (fPlus x y).1) = a.ws.flatMap fun x => b.ws.map fun y => x + y := flatMap_congr2 fun x hx y hy => by rw [fPlus_small (h.w x hx) (h'.w y hy)]
  rw [e] at h6
  exact ⟨P, h1, h2, by rw [h2, h3]; exact right_join h.r h'.r, h4, h5, fun ha hb => least_plus ha hb h6⟩
end Go.Proofs.YtlmkgghpaaadhaaGreatDoor.G

/- weigh: the calls that the laws make, with known answers. -/
set_option linter.unusedVariables false
set_option linter.unusedSimpArgs false
namespace Go.Proofs.YtlmkgghpaaadhaaGreatDoor.G
open Go.RowKit Go.Proofs.YtlmkgghpaaadhaaGreatDoorW.PrintWords Go.Proofs.YtlmkgghpaaadhaaGreatDoorW.PrintLast Go.Proofs.YtlmkgghpaaadhaaGreatDoorW.PrintMore

theorem inW_tot {l : List Int} (h : tot l ≤ 4611686018427387904) : InW l := fun x hx => by
  induction l with
  | nil => cases hx
  | cons y l ih =>
    have h0 : tot (y :: l) = (y.natAbs : Int) + tot l := rfl
    have h1 := tot_nonneg l
    rcases List.mem_cons.1 hx with rfl | hx
    · omega
    · exact ih (by omega) hx
theorem ord_nil (L : List (List Int)) : Ord (nilRows L) := by
  unfold nilRows
  split <;> simp [Ord]
theorem nil_len (L : List (List Int)) : (nilRows L).length ≤ 1000000 := by
  unfold nilRows
  split <;> simp
theorem ord_up {L : List (List Int)} (h : Pl.Up L) : Ord L := h.imp fun h' => Pl.lt_asymm h'
section
variable {w : World} {A : Option Addr} {c : Nat} {sc : List Int} {A' : Option Addr} {c' : Nat} {L : List (List Int)} {Aw : Option Addr} {cw : Nat} {ws : List Int} {n n' m : Nat}
theorem sum_some (h : WRd w A c sc A' c' L Aw cw ws) (hn : sc.length = n) (hn' : L.length = n') (hm : ws.length = m) (hr : Rise sc) (hs : sc.length ≤ 1000000) (hl : ws.length = L.length) (hLl : L.length ≤ 1000000) (hL : L ≠ []) (ht : tot ws ≤ 4611686018427387904) {y : Int} (hy : ws.sum = y) :
    Calls Tryz.prog 25 #[.agg #[.slice A n c, .slice A' n' c', .slice Aw m cw], .slice none 0 0] w fun e w' => ∃ A c A' c' Aw cw, e = .returned (.tuple #[.agg #[.slice A 0 c, .slice A' 1 c', .slice Aw 1 cw], .int .i64 0]) ∧ WMk w' w.heap.size A c A' c' Aw cw ⟨[], [[]], [y]⟩ ∧ Below w.heap.size w w' := by
  subst hy hn hn' hm
  exact sum_any (a := ⟨sc, L, ws⟩) (vars := []) (r := ⟨[], [[]], [ws.sum]⟩) (n := 0) h (inW_tot ht) (Kd.C_nil _ _) hs hLl (by simp) (proj_nil hr L) (ord_nil L) (by simp) (nil_len L) (sum_nil hl hL ht)
theorem sum_nothing (h : WRd w A c sc A' c' [] Aw cw []) (hn : sc.length = n) (hr : Rise sc) (hs : sc.length ≤ 1000000) :
    Calls Tryz.prog 25 #[.agg #[.slice A n c, .slice A' 0 c', .slice Aw 0 cw], .slice none 0 0] w fun e w' => ∃ A c A' c' Aw cw, e = .returned (.tuple #[.agg #[.slice A 0 c, .slice A' 0 c', .slice Aw 0 cw], .int .i64 0]) ∧ WMk w' w.heap.size A c A' c' Aw cw ⟨[], [], []⟩ ∧ Below w.heap.size w w' := by
  subst hn
  exact sum_any (a := ⟨sc, [], []⟩) (vars := []) (r := ⟨[], [], []⟩) (n := 0) h (fun x hx => by cases hx) (Kd.C_nil _ _) hs (by simp) (by simp) (proj_nil hr []) (ord_nil []) (by simp) (nil_len []) (sum_none rfl)
theorem min_some (h : WRd w A c sc A' c' L Aw cw ws) (hn : sc.length = n) (hn' : L.length = n') (hm : ws.length = m) (hr : Rise sc) (hs : sc.length ≤ 1000000) (hl : ws.length = L.length) (hLl : L.length ≤ 1000000) (hL : L ≠ []) {y : Int} (hy : least ws = y) :
    Calls Tryz.prog 26 #[.agg #[.slice A n c, .slice A' n' c', .slice Aw m cw], .slice none 0 0] w fun e w' => ∃ A c A' c' Aw cw, e = .returned (.agg #[.slice A 0 c, .slice A' 1 c', .slice Aw 1 cw]) ∧ WMk w' w.heap.size A c A' c' Aw cw ⟨[], [[]], [y]⟩ ∧ Below w.heap.size w w' := by
  subst hy hn hn' hm
  exact min_any (a := ⟨sc, L, ws⟩) (vars := []) (r := ⟨[], [[]], [least ws]⟩) h (Kd.C_nil _ _) hs hLl (by simp) (proj_nil hr L) (ord_nil L) (by simp) (nil_len L) (min_nil hl hL)
theorem min_nothing (h : WRd w A c sc A' c' [] Aw cw []) (hn : sc.length = n) (hr : Rise sc) (hs : sc.length ≤ 1000000) :
    Calls Tryz.prog 26 #[.agg #[.slice A n c, .slice A' 0 c', .slice Aw 0 cw], .slice none 0 0] w fun e w' => ∃ A c A' c' Aw cw, e = .returned (.agg #[.slice A 0 c, .slice A' 0 c', .slice Aw 0 cw]) ∧ WMk w' w.heap.size A c A' c' Aw cw ⟨[], [], []⟩ ∧ Below w.heap.size w w' := by
  subst hn
  exact min_any (a := ⟨sc, [], []⟩) (vars := []) (r := ⟨[], [], []⟩) h (Kd.C_nil _ _) hs (by simp) (by simp) (proj_nil hr []) (ord_nil []) (by simp) (nil_len []) (min_none rfl)
/-- Sums over some variables, each of which fits. -/
theorem sum_vars {Av : Option Addr} {cv nv : Nat} {vars : List Int} (h : WRd w A c sc A' c' L Aw cw ws) (hn : sc.length = n) (hn' : L.length = n') (hm : ws.length = m) (hs : sc.length ≤ 1000000) (hl : ws.length = L.length) (hLl : L.length ≤ 1000000) (ht : tot ws ≤ 4611686018427387904) (hv : Kd.C KI w Av vars.length vars) (hnv : vars.length = nv) (hvl : vars.length ≤ 1000000)
    {on : List Int} {R : List (List Int)} (hP : projRel sc L vars = (on, R)) (ho : on.length ≤ 1000000) {S : List Int} (hS : (partedTo ⟨sc, L, ws⟩ on R).map List.sum = S) {n2 m2 k2 : Nat} (h2 : on.length = n2) (h3 : R.length = m2) (h4 : S.length = k2) :
    Calls Tryz.prog 25 #[.agg #[.slice A n c, .slice A' n' c', .slice Aw m cw], .slice Av nv cv] w fun e w' => ∃ A c A' c' Aw cw, e = .returned (.tuple #[.agg #[.slice A n2 c, .slice A' m2 c', .slice Aw k2 cw], .int .i64 0]) ∧ WMk w' w.heap.size A c A' c' Aw cw ⟨on, R, S⟩ ∧ Below w.heap.size w w' := by
  have hR : R = cutRows sc L on := by
    have h1 : on = onto sc vars := (Prod.mk.inj hP).1.symm
    rw [h1]; exact (Prod.mk.inj hP).2.symm
  subst hS hn hn' hm hnv h2 h3 h4
  refine sum_any (a := ⟨sc, L, ws⟩) (r := ⟨on, R, _⟩) (n := 0) h (inW_tot ht) hv hs hLl hvl hP (by rw [hR]; exact ord_up (cutRows_up _ _ _)) ho (by rw [hR]; exact Nat.le_trans (cutRows_len _ _ _) hLl) ?_
  unfold sumTo
  rw [if_pos]
  intro l hl'
  exact Int.le_trans (parted_tot hl l hl') ht
theorem min_vars {Av : Option Addr} {cv nv : Nat} {vars : List Int} (h : WRd w A c sc A' c' L Aw cw ws) (hn : sc.length = n) (hn' : L.length = n') (hm : ws.length = m) (hs : sc.length ≤ 1000000) (hLl : L.length ≤ 1000000) (hv : Kd.C KI w Av vars.length vars) (hnv : vars.length = nv) (hvl : vars.length ≤ 1000000)
    {on : List Int} {R : List (List Int)} (hP : projRel sc L vars = (on, R)) (ho : on.length ≤ 1000000) {S : List Int} (hS : (partedTo ⟨sc, L, ws⟩ on R).map least = S) {n2 m2 k2 : Nat} (h2 : on.length = n2) (h3 : R.length = m2) (h4 : S.length = k2) :
    Calls Tryz.prog 26 #[.agg #[.slice A n c, .slice A' n' c', .slice Aw m cw], .slice Av nv cv] w fun e w' => ∃ A c A' c' Aw cw, e = .returned (.agg #[.slice A n2 c, .slice A' m2 c', .slice Aw k2 cw]) ∧ WMk w' w.heap.size A c A' c' Aw cw ⟨on, R, S⟩ ∧ Below w.heap.size w w' := by
  have hR : R = cutRows sc L on := by
    have h1 : on = onto sc vars := (Prod.mk.inj hP).1.symm
    rw [h1]; exact (Prod.mk.inj hP).2.symm
  subst hS hn hn' hm hnv h2 h3 h4
  exact min_any (a := ⟨sc, L, ws⟩) (r := ⟨on, R, _⟩) h hv hs hLl hvl hP (by rw [hR]; exact ord_up (cutRows_up _ _ _)) ho (by rw [hR]; exact Nat.le_trans (cutRows_len _ _ _) hLl) rfl
end
end Go.Proofs.YtlmkgghpaaadhaaGreatDoor.G
