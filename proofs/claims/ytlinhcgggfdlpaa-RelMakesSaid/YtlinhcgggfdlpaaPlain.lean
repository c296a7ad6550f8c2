/- Plain facts on rows of numbers: their order, sorted rows each once. No program in sight. -/
namespace Go.Proofs.Ytlinhcgggfdlpaa.Pl

/-- How two rows of numbers stand to each other: -1, 0, 1. -/
def cmp : List Int → List Int → Int
  | [], [] => 0
  | [], _ :: _ => -1
  | _ :: _, [] => 1
  | a :: s, b :: t => if a < b then -1 else if b < a then 1 else cmp s t

def lt (s t : List Int) : Prop := cmp s t = -1
instance (s t : List Int) : Decidable (lt s t) := inferInstanceAs (Decidable (_ = _))

theorem cmp_range (s t : List Int) : cmp s t = -1 ∨ cmp s t = 0 ∨ cmp s t = 1 := by
  induction s generalizing t with
  | nil => cases t <;> simp [cmp]
  | cons a s ih =>
    cases t with
    | nil => simp [cmp]
    | cons b t =>
      simp only [cmp]
      split
      · simp
      · split
        · simp
        · exact ih t

theorem cmp_self (s : List Int) : cmp s s = 0 := by
  induction s with
  | nil => rfl
  | cons a s ih => simp [cmp, ih]

theorem cmp_eq (s t : List Int) : cmp s t = 0 ↔ s = t := by
  induction s generalizing t with
  | nil => cases t <;> simp [cmp]
  | cons a s ih =>
    cases t with
    | nil => simp [cmp]
    | cons b t =>
      simp only [cmp]
      split
      · simp; omega
      · split
        · simp; omega
        · rw [ih]
          have : a = b := by omega
          simp [this]

theorem cmp_swap (s t : List Int) : cmp t s = - cmp s t := by
  induction s generalizing t with
  | nil => cases t <;> simp [cmp]
  | cons a s ih =>
    cases t with
    | nil => simp [cmp]
    | cons b t =>
      simp only [cmp]
      by_cases h1 : a < b
      · simp [h1, show ¬ b < a by omega]
      · by_cases h2 : b < a
        · simp [h2, h1]
        · rw [if_neg h2, if_neg h1, if_neg h1]; simp only [if_neg h2]; exact ih t

theorem lt_trans {s t u : List Int} (h1 : lt s t) (h2 : lt t u) : lt s u := by
  unfold lt at *
  induction s generalizing t u with
  | nil =>
    cases t with
    | nil => simp [cmp] at h1
    | cons b t => cases u with
      | nil => simp [cmp] at h2
      | cons c u => simp [cmp]
  | cons a s ih =>
    cases t with
    | nil => simp [cmp] at h1
    | cons b t =>
      cases u with
      | nil => simp [cmp] at h2
      | cons c u =>
        simp only [cmp] at *
        by_cases hab : a < b
        · by_cases hbc : b < c
          · rw [if_pos (by omega)]
          · rw [if_neg hbc] at h2
            by_cases hcb : c < b
            · rw [if_pos hcb] at h2; simp at h2
            · rw [if_pos (by omega)]
        · rw [if_neg hab] at h1
          by_cases hba : b < a
          · rw [if_pos hba] at h1; simp at h1
          · rw [if_neg hba] at h1
            have : a = b := by omega
            subst this
            by_cases hbc : a < c
            · rw [if_pos hbc]
            · rw [if_neg hbc] at h2 ⊢
              by_cases hcb : c < a
              · rw [if_pos hcb] at h2; simp at h2
              · rw [if_neg hcb] at h2 ⊢
                exact ih h1 h2

theorem lt_irrefl (s : List Int) : ¬ lt s s := by unfold lt; rw [cmp_self]; decide
theorem lt_asymm {s t : List Int} (h : lt s t) : ¬ lt t s := fun h' => lt_irrefl s (lt_trans h h')
theorem lt_total (s t : List Int) : lt s t ∨ s = t ∨ lt t s := by
  unfold lt
  rcases cmp_range s t with h | h | h
  · exact .inl h
  · exact .inr (.inl ((cmp_eq s t).1 h))
  · exact .inr (.inr (by rw [cmp_swap, h]))
theorem cmp_neg (s t : List Int) : cmp s t < 0 ↔ lt s t := by
  unfold lt
  rcases cmp_range s t with h | h | h <;> rw [h] <;> simp
theorem cmp_pos (s t : List Int) : 0 < cmp s t ↔ lt t s := by
  unfold lt
  rw [cmp_swap s t]
  rcases cmp_range s t with h | h | h <;> rw [h] <;> simp
theorem cmp_ge (s t : List Int) : cmp s t ≥ 0 ↔ ¬ lt s t := by rw [← cmp_neg]; omega

/-! ### rows that rise, each once -/
def Up (l : List (List Int)) : Prop := l.Pairwise lt

/-- Two that rise and have the same are one. -/
theorem Up.ext {l m : List (List Int)} (hl : Up l) (hm : Up m) (h : ∀ x, x ∈ l ↔ x ∈ m) : l = m := by
  induction l generalizing m with
  | nil =>
    cases m with
    | nil => rfl
    | cons b m => exact absurd ((h b).2 List.mem_cons_self) (by simp)
  | cons a l ih =>
    cases m with
    | nil => exact absurd ((h a).1 List.mem_cons_self) (by simp)
    | cons b m =>
      have hl' := List.pairwise_cons.1 hl
      have hm' := List.pairwise_cons.1 hm
      have hab : a = b := by
        rcases List.mem_cons.1 ((h a).1 List.mem_cons_self) with e | e
        · exact e
        · rcases List.mem_cons.1 ((h b).2 List.mem_cons_self) with e' | e'
          · exact e'.symm
          · exact absurd (hl'.1 b e') (lt_asymm (hm'.1 a e))
      subst hab
      congr 1
      refine ih hl'.2 hm'.2 fun x => ⟨fun hx => ?_, fun hx => ?_⟩
      · rcases List.mem_cons.1 ((h x).1 (List.mem_cons_of_mem _ hx)) with e | e
        · subst e; exact absurd (hl'.1 x hx) (lt_irrefl x)
        · exact e
      · rcases List.mem_cons.1 ((h x).2 (List.mem_cons_of_mem _ hx)) with e | e
        · subst e; exact absurd (hm'.1 x hx) (lt_irrefl x)
        · exact e

/-- A row put in its place, unless it is there. -/
def ins (x : List Int) : List (List Int) → List (List Int)
  | [] => [x]
  | y :: l => if lt x y then x :: y :: l else if x = y then y :: l else y :: ins x l

theorem mem_ins {x y : List Int} {l : List (List Int)} : y ∈ ins x l ↔ y = x ∨ y ∈ l := by
  induction l with
  | nil => simp [ins]
  | cons z l ih =>
    simp only [ins]
    split
    · simp
    · split
      · rename_i h; subst h; simp
      · simp only [List.mem_cons, ih]
        constructor
        · rintro (h | h | h) <;> simp [h]
        · rintro (h | h | h) <;> simp [h]

theorem Up.ins {x : List Int} {l : List (List Int)} (h : Up l) : Up (ins x l) := by
  induction l with
  | nil => exact List.pairwise_singleton _ _
  | cons z l ih =>
    have h' := List.pairwise_cons.1 h
    simp only [Pl.ins]
    split
    · rename_i hxz
      refine List.pairwise_cons.2 ⟨fun y hy => ?_, h⟩
      rcases List.mem_cons.1 hy with e | e
      · subst e; exact hxz
      · exact lt_trans hxz (h'.1 y e)
    · split
      · exact h
      · rename_i h1 h2
        refine List.pairwise_cons.2 ⟨fun y hy => ?_, ih h'.2⟩
        rcases mem_ins.1 hy with e | e
        · subst e
          rcases lt_total y z with e | e | e
          · exact absurd e h1
          · exact absurd e h2
          · exact e
        · exact h'.1 y e

/-- Rows in their order, each once. -/
def sortU (l : List (List Int)) : List (List Int) := l.foldl (fun acc x => ins x acc) []

theorem foldl_ins (l acc : List (List Int)) (h : Up acc) : Up (l.foldl (fun acc x => ins x acc) acc) ∧ ∀ x, x ∈ l.foldl (fun acc x => ins x acc) acc ↔ x ∈ acc ∨ x ∈ l := by
  induction l generalizing acc with
  | nil => exact ⟨h, fun x => by simp⟩
  | cons a l ih =>
    obtain ⟨h1, h2⟩ := ih (ins a acc) h.ins
    refine ⟨h1, fun x => ?_⟩
    rw [List.foldl_cons, h2, mem_ins, List.mem_cons]
    constructor
    · rintro ((h | h) | h) <;> simp [h]
    · rintro (h | h | h) <;> simp [h]

theorem sortU_up (l : List (List Int)) : Up (sortU l) := (foldl_ins l [] List.Pairwise.nil).1
theorem mem_sortU {l : List (List Int)} {x : List Int} : x ∈ sortU l ↔ x ∈ l := by
  have := (foldl_ins l [] List.Pairwise.nil).2 x
  simpa [sortU] using this
theorem sortU_eq {l m : List (List Int)} (hm : Up m) (h : ∀ x, x ∈ m ↔ x ∈ l) : m = sortU l := hm.ext (sortU_up l) fun x => by rw [h, mem_sortU]
theorem sortU_of_up {l : List (List Int)} (h : Up l) : sortU l = l := (sortU_eq h fun _ => Iff.rfl).symm
theorem sortU_congr {l m : List (List Int)} (h : ∀ x, x ∈ l ↔ x ∈ m) : sortU l = sortU m := (sortU_up l).ext (sortU_up m) fun x => by rw [mem_sortU, mem_sortU, h]
theorem Up.nodup {l : List (List Int)} (h : Up l) : l.Nodup := by
  unfold Up at h
  unfold List.Nodup
  exact h.imp fun {a b} hab e => by subst e; exact lt_irrefl a hab
theorem ins_length_le (x : List Int) (l : List (List Int)) : (ins x l).length ≤ l.length + 1 := by
  induction l with
  | nil => simp [ins]
  | cons z l ih =>
    simp only [ins]
    split
    · simp
    · split <;> simp
      omega
theorem sortU_length_le (l : List (List Int)) : (sortU l).length ≤ l.length := by
  have : ∀ (l acc : List (List Int)), (l.foldl (fun acc x => ins x acc) acc).length ≤ acc.length + l.length := by
    intro l
    induction l with
    | nil => intro acc; simp
    | cons a l ih =>
      intro acc
      have h1 := ih (ins a acc)
      have h2 := ins_length_le a acc
      simp only [List.foldl_cons, List.length_cons]
      omega
  have := this l []
  simpa [sortU] using this

/-! ### neighbours that are the same, once -/
theorem snoc_ind {α : Type} {P : List α → Prop} (h0 : P []) (h1 : ∀ l x, P l → P (l ++ [x])) (l : List α) : P l := by
  rw [← List.reverse_reverse l]
  generalize l.reverse = m
  induction m with
  | nil => exact h0
  | cons a m ih => rw [List.reverse_cons]; exact h1 _ _ ih

def dd (l : List (List Int)) : List (List Int) := l.foldl (fun acc x => if acc.getLast? = some x then acc else acc ++ [x]) []
theorem dd_snoc (l : List (List Int)) (x : List Int) : dd (l ++ [x]) = if (dd l).getLast? = some x then dd l else dd l ++ [x] := by unfold dd; rw [List.foldl_append]; rfl
theorem dd_last (l : List (List Int)) : (dd l).getLast? = l.getLast? := by
  induction l using snoc_ind with
  | h0 => rfl
  | h1 l x ih =>
    rw [dd_snoc]
    split
    · rename_i h; rw [h]; simp
    · simp
theorem mem_dd {l : List (List Int)} {x : List Int} : x ∈ dd l ↔ x ∈ l := by
  induction l using snoc_ind with
  | h0 => rfl
  | h1 l y ih =>
    rw [dd_snoc]
    split
    · rename_i h
      rw [ih, List.mem_append, List.mem_singleton]
      refine ⟨.inl, fun h' => h'.elim id fun e => ?_⟩
      subst e
      rw [← ih]
      exact List.mem_of_getLast? h
    · rw [List.mem_append, ih, List.mem_append]
theorem dd_length (l : List (List Int)) : (dd l).length ≤ l.length := by
  induction l using snoc_ind with
  | h0 => exact Nat.le_refl _
  | h1 l y ih =>
    rw [dd_snoc]
    split <;> simp <;> omega
theorem dd_up {l : List (List Int)} (h : l.Pairwise fun a b => ¬ lt b a) : Up (dd l) := by
  induction l using snoc_ind with
  | h0 => exact List.Pairwise.nil
  | h1 l x ih =>
    obtain ⟨h1, _, h2⟩ := List.pairwise_append.1 h
    have hu := ih h1
    rw [dd_snoc]
    split
    · exact hu
    · rename_i hne
      refine List.pairwise_append.2 ⟨hu, List.pairwise_singleton _ _, fun y hy z hz => ?_⟩
      rw [List.mem_singleton.1 hz]
      have hy' := h2 y (mem_dd.1 hy) x (by simp)
      rcases lt_total y x with e | e | e
      · exact e
      · exfalso
        subst e
        obtain ⟨i, hi, hiy⟩ := List.getElem_of_mem hy
        have hlast : (dd l)[(dd l).length - 1]? = (dd l).getLast? := by rw [List.getLast?_eq_getElem?]
        rw [List.getElem?_eq_getElem (by omega)] at hlast
        by_cases e : i = (dd l).length - 1
        · subst e; exact hne (by rw [← hlast, hiy])
        · have h3 := List.pairwise_iff_getElem.1 hu i ((dd l).length - 1) hi (by omega) (by omega)
          rw [hiy] at h3
          exact h2 _ (mem_dd.1 (List.getElem_mem (by omega : (dd l).length - 1 < (dd l).length))) y (by simp) h3
      · exact absurd e hy'
/-- Sorted rows whose neighbours are told once. -/
theorem dd_sorted {l m : List (List Int)} (h : m.Pairwise fun a b => ¬ lt b a) (hm : ∀ x, x ∈ m ↔ x ∈ l) : dd m = sortU l := sortU_eq (dd_up h) fun x => by rw [mem_dd, hm]
theorem dd_take_succ (l : List (List Int)) (k : Nat) (h0 : 0 < k) (h : k < l.length) : dd (l.take (k + 1)) = if l[k - 1] = l[k] then dd (l.take k) else dd (l.take k) ++ [l[k]] := by
  rw [List.take_succ_eq_append_getElem h, dd_snoc, dd_last]
  have : (l.take k).getLast? = some l[k - 1] := by
    rw [List.getLast?_eq_getElem?, List.length_take, Nat.min_eq_left (by omega), List.getElem?_take_of_lt (by omega), List.getElem?_eq_getElem (by omega)]
  rw [this]
  simp

end Go.Proofs.Ytlinhcgggfdlpaa.Pl
