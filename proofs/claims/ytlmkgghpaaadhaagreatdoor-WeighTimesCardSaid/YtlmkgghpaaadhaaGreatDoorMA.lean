/- Several texts of this claim in one. -/
import Derived.Test.YtlmkgghpaaadhaaGreatDoorProg
import Derived.Test.YtlmkgghpaaadhaaGreatDoorWWords
import Derived.Test.YtlmkgghpaaadhaaGreatDoorWMore
import Derived.Test.YtlmkgghpaaadhaaGreatDoorWNEv
import Derived.Lib.Hide
import Derived.Lib.SliceRun
import Derived.WalkSpells
/- Plain facts on rows of numbers: their order, sorted rows each once. No program in sight. -/
namespace Go.Proofs.YtlmkgghpaaadhaaGreatDoor.Pl

/-- How two rows of numbers stand to each other: -1, 0, 1. -/
def cmp : List Int → List Int → Int
  | [], [] => 0
  | [], _ :: _ => -1
  | _ :: _, [] => 1
  | a :: s, b :: t => if a < b then -1 else if b < a then 1 else cmp s t

def lt (s t : List Int) : Prop := cmp s t = -1
instance (s t : List Int) : Decidable (lt s t) := inferInstanceAs (Decidable (_ = _))

theorem cmp_range (s t : List Int) : cmp s t = -1 ∨ cmp s t = 0 ∨ cmp s t = 1 := by
  induction s generalizing t with
  | nil => cases t <;> simp [cmp]
  | cons a s ih =>
    cases t with
    | nil => simp [cmp]
    | cons b t =>
      simp only [cmp]
      split
      · simp
      · split
        · simp
        · exact ih t

theorem cmp_self (s : List Int) : cmp s s = 0 := by
  induction s with
  | nil => rfl
  | cons a s ih => simp [cmp, ih]

theorem cmp_eq (s t : List Int) : cmp s t = 0 ↔ s = t := by
  induction s generalizing t with
  | nil => cases t <;> simp [cmp]
  | cons a s ih =>
    cases t with
    | nil => simp [cmp]
    | cons b t =>
      simp only [cmp]
      split
      · simp; omega
      · split
        · simp; omega
        · rw [ih]
          have : a = b := by omega
          simp [this]

theorem cmp_swap (s t : List Int) : cmp t s = - cmp s t := by
  induction s generalizing t with
  | nil => cases t <;> simp [cmp]
  | cons a s ih =>
    cases t with
    | nil => simp [cmp]
    | cons b t =>
      simp only [cmp]
      by_cases h1 : a < b
      · simp [h1, show ¬ b < a by omega]
      · by_cases h2 : b < a
        · simp [h2, h1]
        · rw [if_neg h2, if_neg h1, if_neg h1]; simp only [if_neg h2]; exact ih t

theorem lt_trans {s t u : List Int} (h1 : lt s t) (h2 : lt t u) : lt s u := by
  unfold lt at *
  induction s generalizing t u with
  | nil =>
    cases t with
    | nil => simp [cmp] at h1
    | cons b t => cases u with
      | nil => simp [cmp] at h2
      | cons c u => simp [cmp]
  | cons a s ih =>
    cases t with
    | nil => simp [cmp] at h1
    | cons b t =>
      cases u with
      | nil => simp [cmp] at h2
      | cons c u =>
        simp only [cmp] at *
        by_cases hab : a < b
        · by_cases hbc : b < c
          · rw [if_pos (by omega)]
          · rw [if_neg hbc] at h2
            by_cases hcb : c < b
            · rw [if_pos hcb] at h2; simp at h2
            · rw [if_pos (by omega)]
        · rw [if_neg hab] at h1
          by_cases hba : b < a
          · rw [if_pos hba] at h1; simp at h1
          · rw [if_neg hba] at h1
            have : a = b := by omega
            subst this
            by_cases hbc : a < c
            · rw [if_pos hbc]
            · rw [if_neg hbc] at h2 ⊢
              by_cases hcb : c < a
              · rw [if_pos hcb] at h2; simp at h2
              · rw [if_neg hcb] at h2 ⊢
                exact ih h1 h2

theorem lt_irrefl (s : List Int) : ¬ lt s s := by unfold lt; rw [cmp_self]; decide
theorem lt_asymm {s t : List Int} (h : lt s t) : ¬ lt t s := fun h' => lt_irrefl s (lt_trans h h')
theorem lt_total (s t : List Int) : lt s t ∨ s = t ∨ lt t s := by
  unfold lt
  rcases cmp_range s t with h | h | h
  · exact .inl h
  · exact .inr (.inl ((cmp_eq s t).1 h))
  · exact .inr (.inr (by rw [cmp_swap, h]))
theorem cmp_neg (s t : List Int) : cmp s t < 0 ↔ lt s t := by
  unfold lt
  rcases cmp_range s t with h | h | h <;> rw [h] <;> simp
theorem cmp_pos (s t : List Int) : 0 < cmp s t ↔ lt t s := by
  unfold lt
  rw [cmp_swap s t]
  rcases cmp_range s t with h | h | h <;> rw [h] <;> simp
/-! ### rows that rise, each once -/
def Up (l : List (List Int)) : Prop := l.Pairwise lt

/-- Two that rise and have the same are one. -/
theorem Up.ext {l m : List (List Int)} (hl : Up l) (hm : Up m) (h : ∀ x, x ∈ l ↔ x ∈ m) : l = m := by
  induction l generalizing m with
  | nil =>
    cases m with
    | nil => rfl
    | cons b m => exact absurd ((h b).2 List.mem_cons_self) (by simp)
  | cons a l ih =>
    cases m with
    | nil => exact absurd ((h a).1 List.mem_cons_self) (by simp)
    | cons b m =>
      have hl' := List.pairwise_cons.1 hl
      have hm' := List.pairwise_cons.1 hm
      have hab : a = b := by
        rcases List.mem_cons.1 ((h a).1 List.mem_cons_self) with e | e
        · exact e
        · rcases List.mem_cons.1 ((h b).2 List.mem_cons_self) with e' | e'
          · exact e'.symm
          · exact absurd (hl'.1 b e') (lt_asymm (hm'.1 a e))
      subst hab
      congr 1
      refine ih hl'.2 hm'.2 fun x => ⟨fun hx => ?_, fun hx => ?_⟩
      · rcases List.mem_cons.1 ((h x).1 (List.mem_cons_of_mem _ hx)) with e | e
        · subst e; exact absurd (hl'.1 x hx) (lt_irrefl x)
        · exact e
      · rcases List.mem_cons.1 ((h x).2 (List.mem_cons_of_mem _ hx)) with e | e
        · subst e; exact absurd (hm'.1 x hx) (lt_irrefl x)
        · exact e

/-- A row put in its place, unless it is there. -/
def ins (x : List Int) : List (List Int) → List (List Int)
  | [] => [x]
  | y :: l => if lt x y then x :: y :: l else if x = y then y :: l else y :: ins x l

theorem mem_ins {x y : List Int} {l : List (List Int)} : y ∈ ins x l ↔ y = x ∨ y ∈ l := by
  induction l with
  | nil => simp [ins]
  | cons z l ih =>
    simp only [ins]
    split
    · simp
    · split
      · rename_i h; subst h; simp
      · simp only [List.mem_cons, ih]
        constructor
        · rintro (h | h | h) <;> simp [h]
        · rintro (h | h | h) <;> simp [h]

theorem Up.ins {x : List Int} {l : List (List Int)} (h : Up l) : Up (ins x l) := by
  induction l with
  | nil => exact List.pairwise_singleton _ _
  | cons z l ih =>
    have h' := List.pairwise_cons.1 h
    simp only [Pl.ins]
    split
    · rename_i hxz
      refine List.pairwise_cons.2 ⟨fun y hy => ?_, h⟩
      rcases List.mem_cons.1 hy with e | e
      · subst e; exact hxz
      · exact lt_trans hxz (h'.1 y e)
    · split
      · exact h
      · rename_i h1 h2
        refine List.pairwise_cons.2 ⟨fun y hy => ?_, ih h'.2⟩
        rcases mem_ins.1 hy with e | e
        · subst e
          rcases lt_total y z with e | e | e
          · exact absurd e h1
          · exact absurd e h2
          · exact e
        · exact h'.1 y e

/-- Rows in their order, each once. -/
def sortU (l : List (List Int)) : List (List Int) := l.foldl (fun acc x => ins x acc) []

theorem foldl_ins (l acc : List (List Int)) (h : Up acc) : Up (l.foldl (fun acc x => ins x acc) acc) ∧ ∀ x, x ∈ l.foldl (fun acc x => ins x acc) acc ↔ x ∈ acc ∨ x ∈ l := by
  induction l generalizing acc with
  | nil => exact ⟨h, fun x => by simp⟩
  | cons a l ih =>
    obtain ⟨h1, h2⟩ := ih (ins a acc) h.ins
    refine ⟨h1, fun x => ?_⟩
    rw [List.foldl_cons, h2, mem_ins, List.mem_cons]
    constructor
    · rintro ((h | h) | h) <;> simp [h]
    · rintro (h | h | h) <;> simp [h]

theorem sortU_up (l : List (List Int)) : Up (sortU l) := (foldl_ins l [] List.Pairwise.nil).1
theorem mem_sortU {l : List (List Int)} {x : List Int} : x ∈ sortU l ↔ x ∈ l := by
  have := (foldl_ins l [] List.Pairwise.nil).2 x
  simpa [sortU] using this
theorem sortU_eq {l m : List (List Int)} (hm : Up m) (h : ∀ x, x ∈ m ↔ x ∈ l) : m = sortU l := hm.ext (sortU_up l) fun x => by rw [h, mem_sortU]
theorem Up.nodup {l : List (List Int)} (h : Up l) : l.Nodup := by
  unfold Up at h
  unfold List.Nodup
  exact h.imp fun {a b} hab e => by subst e; exact lt_irrefl a hab
theorem ins_length_le (x : List Int) (l : List (List Int)) : (ins x l).length ≤ l.length + 1 := by
  induction l with
  | nil => simp [ins]
  | cons z l ih =>
    simp only [ins]
    split
    · simp
    · split <;> simp
      omega
theorem sortU_length_le (l : List (List Int)) : (sortU l).length ≤ l.length := by
  have : ∀ (l acc : List (List Int)), (l.foldl (fun acc x => ins x acc) acc).length ≤ acc.length + l.length := by
    intro l
    induction l with
    | nil => intro acc; simp
    | cons a l ih =>
      intro acc
      have h1 := ih (ins a acc)
      have h2 := ins_length_le a acc
      simp only [List.foldl_cons, List.length_cons]
      omega
  have := this l []
  simpa [sortU] using this

/-! ### neighbours that are the same, once -/
theorem snoc_ind {α : Type} {P : List α → Prop} (h0 : P []) (h1 : ∀ l x, P l → P (l ++ [x])) (l : List α) : P l := by
  rw [← List.reverse_reverse l]
  generalize l.reverse = m
  induction m with
  | nil => exact h0
  | cons a m ih => rw [List.reverse_cons]; exact h1 _ _ ih

def dd (l : List (List Int)) : List (List Int) := l.foldl (fun acc x => if acc.getLast? = some x then acc else acc ++ [x]) []
theorem dd_snoc (l : List (List Int)) (x : List Int) : dd (l ++ [x]) = if (dd l).getLast? = some x then dd l else dd l ++ [x] := by unfold dd; rw [List.foldl_append]; rfl
theorem dd_last (l : List (List Int)) : (dd l).getLast? = l.getLast? := by
  induction l using snoc_ind with
  | h0 => rfl
  | h1 l x ih =>
    rw [dd_snoc]
    split
    · rename_i h; rw [h]; simp
    · simp
theorem mem_dd {l : List (List Int)} {x : List Int} : x ∈ dd l ↔ x ∈ l := by
  induction l using snoc_ind with
  | h0 => rfl
  | h1 l y ih =>
    rw [dd_snoc]
    split
    · rename_i h
      rw [ih, List.mem_append, List.mem_singleton]
      refine ⟨.inl, fun h' => h'.elim id fun e => ?_⟩
      subst e
      rw [← ih]
      exact List.mem_of_getLast? h
    · rw [List.mem_append, ih, List.mem_append]
theorem dd_up {l : List (List Int)} (h : l.Pairwise fun a b => ¬ lt b a) : Up (dd l) := by
  induction l using snoc_ind with
  | h0 => exact List.Pairwise.nil
  | h1 l x ih =>
    obtain ⟨h1, _, h2⟩ := List.pairwise_append.1 h
    have hu := ih h1
    rw [dd_snoc]
    split
    · exact hu
    · rename_i hne
      refine List.pairwise_append.2 ⟨hu, List.pairwise_singleton _ _, fun y hy z hz => ?_⟩
      rw [List.mem_singleton.1 hz]
      have hy' := h2 y (mem_dd.1 hy) x (by simp)
      rcases lt_total y x with e | e | e
      · exact e
      · exfalso
        subst e
        obtain ⟨i, hi, hiy⟩ := List.getElem_of_mem hy
        have hlast : (dd l)[(dd l).length - 1]? = (dd l).getLast? := by rw [List.getLast?_eq_getElem?]
        rw [List.getElem?_eq_getElem (by omega)] at hlast
        by_cases e : i = (dd l).length - 1
        · subst e; exact hne (by rw [← hlast, hiy])
        · have h3 := List.pairwise_iff_getElem.1 hu i ((dd l).length - 1) hi (by omega) (by omega)
          rw [hiy] at h3
          exact h2 _ (mem_dd.1 (List.getElem_mem (by omega : (dd l).length - 1 < (dd l).length))) y (by simp) h3
      · exact absurd e hy'
/-- Sorted rows whose neighbours are told once. -/
theorem dd_sorted {l m : List (List Int)} (h : m.Pairwise fun a b => ¬ lt b a) (hm : ∀ x, x ∈ m ↔ x ∈ l) : dd m = sortU l := sortU_eq (dd_up h) fun x => by rw [mem_dd, hm]
theorem dd_take_succ (l : List (List Int)) (k : Nat) (h0 : 0 < k) (h : k < l.length) : dd (l.take (k + 1)) = if l[k - 1] = l[k] then dd (l.take k) else dd (l.take k) ++ [l[k]] := by
  rw [List.take_succ_eq_append_getElem h, dd_snoc, dd_last]
  have : (l.take k).getLast? = some l[k - 1] := by
    rw [List.getLast?_eq_getElem?, List.length_take, Nat.min_eq_left (by omega), List.getElem?_take_of_lt (by omega), List.getElem?_eq_getElem (by omega)]
  rw [this]
  simp

end Go.Proofs.YtlmkgghpaaadhaaGreatDoor.Pl

/- Words that all walks of this claim use: kinds of rows, append. -/
set_option linter.unusedVariables false
set_option linter.unusedSimpArgs false
namespace Go.Proofs.YtlmkgghpaaadhaaGreatDoor.G
open Go.RowKit Go.Proofs.YtlmkgghpaaadhaaGreatDoorW.PrintWords Go.Proofs.YtlmkgghpaaadhaaGreatDoorW.PrintLast Go.Proofs.YtlmkgghpaaadhaaGreatDoorW.PrintMore

abbrev KI : Kd Int := Kd.int .i64
abbrev KL : Kd (List Int) := Kd.slice 3 (Kd.int .i64)
abbrev AnyB : Nat → Prop := fun _ => True
theorem infoInt : (Tryz.prog.info? 3).map (fun i => (i.zero, i.size, i.bytes)) = some (some (.int .i64 0), 1, 8) := by kernel_rfl
theorem infoInts : (Tryz.prog.info? 22).map (fun i => (i.zero, i.size, i.bytes)) = some (some (.slice none 0 0), 1, 24) := by kernel_rfl

section
variable {ops : Array Oper} {rest : List Oper} {o : Oper} {a : Act} {Q : Exit → Act → World → Prop}
/-- append of one number. -/
theorem app_int {w W : World} (base : Nat) (hgd : o.guard = none) (s x : Operand) (ho : o.op = .call { callee := .builtin .append, args := #[s, x], argTypes := #[22, 22] })
    (v : Value) (xs : List Int) (y : Int) (hs : a.eval s = v) (hx : a.eval x = .slice (some ⟨W.heap.size, 0, none⟩) 1 1)
    (HO : Aside0 (Kd.R KI 3 W base AnyB v xs)) (HB : Aside0 (Below base w W)) (hbase : base ≤ W.heap.size) (hl : xs.length < 17592186044416)
    (h : ∀ v1 w1, Aside0 (Kd.R KI 3 w1 base AnyB v1 (xs ++ [y])) → Aside0 (Below base w w1) → Aside0 (W.grownBy w1 v.ownBlock) → wpList Tryz.prog ops Q rest (a.put o.dst v1) w1) :
    wpList Tryz.prog ops Q (o :: rest) a (W.alloc (.cells #[.int .i64 y] 3)) :=
  Kd.R_append KI base hgd s x 22 3 (.int .i64 0) 8 ho Tryz.underlying22 infoInt rfl (by decide) (by omega) v xs y [.int .i64 y] AnyB (fun _ => False) hs hx rfl (fun _ hk => hk.elim) (fun _ _ => trivial)
    HO.out HB.out hbase (by omega) (fun v1 w1 ho hb hg _ => h v1 w1 ⟨ho⟩ ⟨hb⟩ ⟨hg⟩)
/-- append of a row of numbers. -/
theorem app_ints {w W : World} (base : Nat) (hgd : o.guard = none) (s x : Operand) (ho : o.op = .call { callee := .builtin .append, args := #[s, x], argTypes := #[22, 22] })
    (v : Value) (xs ys : List Int) (A : Option Addr) (c : Nat) (hs : a.eval s = v) (hx : a.eval x = .slice A ys.length c)
    (HO : Aside0 (Kd.R KI 3 W base AnyB v xs)) (HR : Kd.C KI W A ys.length ys) (HB : Aside0 (Below base w W)) (hbase : base ≤ W.heap.size) (hl : xs.length + ys.length < 17592186044416)
    (h : ∀ v1 w1, Aside0 (Kd.R KI 3 w1 base AnyB v1 (xs ++ ys)) → Aside0 (Below base w w1) → Aside0 (W.grownBy w1 v.ownBlock) → wpList Tryz.prog ops Q rest (a.put o.dst v1) w1) :
    wpList Tryz.prog ops Q (o :: rest) a W :=
  Kd.R_append_rows KI base hgd s x 22 3 (.int .i64 0) 8 ho Tryz.underlying22 infoInt rfl (by decide) (by omega) v xs ys A _ c AnyB (fun _ => False) hs hx HO.out HR (fun _ _ h => h) (fun _ hk => hk.elim) (fun _ _ => trivial)
    HB.out hbase (by omega) (fun v1 w1 ho hb hg _ => h v1 w1 ⟨ho⟩ ⟨hb⟩ ⟨hg⟩)
end

theorem R_made (w w1 : World) (n : Nat) (hown : w1.ownsRow w.heap.size 3 1 (.slice (some ⟨w.heap.size, 0, none⟩) 0 n) 0 []) : Kd.R KI 3 w1 w.heap.size AnyB (.slice (some ⟨w.heap.size, 0, none⟩) 0 n) [] :=
  ⟨fun _ _ => trivial, [], hown, Reps.none _ _⟩
theorem R_lit0 (w : World) : Kd.R KI 3 (w.alloc (.cells #[] 3)) w.heap.size AnyB (.slice (some ⟨w.heap.size, 0, none⟩) 0 0) [] :=
  ⟨fun _ _ => trivial, [], World.ownsRow_made w #[] 0 (Nat.le_refl _) (Nat.zero_le _) (by simp), Reps.none _ _⟩
/-- A number of a row that is read, in a later world. -/
theorem at_int' {w w1 : World} {A : Option Addr} {n : Nat} {xs : List Int} (h : Kd.C KI w A n xs) (hb : Below w.heap.size w w1) (i : Int) (h0 : 0 ≤ i) (h1 : i < n) : ∃ ad, A = some ad ∧ w1.cell? (ad.add i.toNat) = some (.int .i64 (rd xs i)) := by
  obtain ⟨ad, e, hx⟩ := Kd.at_int h i h0 h1
  exact ⟨ad, e, (hb.cell (World.block_lt_of_cell? w _ hx)).trans hx⟩
theorem nil_of_none {α : Type} {d : Kd α} {w : World} {l : List α} (h : Kd.C d w none l.length l) : l = [] := by
  rcases Nat.eq_zero_or_pos l.length with h0 | h0
  · exact List.eq_nil_of_length_eq_zero h0
  · obtain ⟨ad, h, _⟩ := h.2.2 h0
    cases h
theorem take_succ_rd (l : List Int) (k : Nat) (h : k < l.length) : l.take (k + 1) = l.take k ++ [rd l k] := by
  rw [List.take_succ_eq_append_getElem h]; simp [rd, List.getD_eq_getElem?_getD, h]
theorem rd_get (l : List Int) (k : Nat) (h : k < l.length) : rd l k = l[k] := by simp [rd, List.getD_eq_getElem?_getD, h]
/-- What is left behind a row's first number. -/
theorem cut1 (A : Option Addr) (c : Nat) (m : List Int) (h1 : 1 ≤ m.length) (hc : m.length ≤ c) :
    ∃ A', (∀ W : World, (Instr.slice 22 (.slice A m.length c) (some (.int .i64 1)) none none).run Tryz.prog W = .ok (.slice A' (m.drop 1).length (c - 1)) W) ∧ (∀ w : World, Kd.C KI w A m.length m → Kd.C KI w A' (m.drop 1).length (m.drop 1)) ∧ (m.drop 1).length ≤ c - 1 := by
  obtain ⟨i0, hi, _, hz1, _⟩ := info_parts infoInt
  obtain ⟨A', h1, h2, h3⟩ := print_drop_of (P := Tryz.prog) (Value.int .i64) (0 : Int) 22 3 .i64 Tryz.underlying22 hi hz1 A c m 1 (by omega) (by omega) hc
  exact ⟨A', h1, fun w h => Kd.C_of_reads (h1 := fun _ => rfl) (d := (0 : Int)) (h2 w (Kd.reads_of_C (h1 := fun _ => rfl) h)), h3⟩
end Go.Proofs.YtlmkgghpaaadhaaGreatDoor.G

/- Functions that only read rows of numbers: slices.Equal, slices.Compare, tuple.Compare, tuple.Rising, slices.Index. -/
set_option linter.unusedVariables false
set_option linter.unusedSimpArgs false
namespace Go.Proofs.YtlmkgghpaaadhaaGreatDoor.G
open Go.RowKit Go.Proofs.YtlmkgghpaaadhaaGreatDoorW.PrintWords Go.Proofs.YtlmkgghpaaadhaaGreatDoorW.PrintLast Go.Proofs.YtlmkgghpaaadhaaGreatDoorW.PrintMore

set_option maxHeartbeats 1000000 in
set_option maxRecDepth 100000 in
/-- slices.Equal at rows of numbers. -/
theorem slices_Equal_any (A0 : Option Addr) (c0 : Nat) (l0 : List Int) (A1 : Option Addr) (c1 : Nat) (l1 : List Int) (w : World)
    (hr0 : Kd.C KI w A0 l0.length l0) (hr1 : Kd.C KI w A1 l1.length l1) :
    Calls Tryz.prog 111 #[.slice A0 l0.length c0, .slice A1 l1.length c1] w fun e w' => e = .returned (.bool (decide (l0 = l1))) ∧ Drawn0 w w' := by
  have HR0 := Aside0.mk hr0
  have HR1 := Aside0.mk hr1
  have hm0 : l0.length ≤ 9223372036854775807 := hr0.2.1
  clear hr0 hr1
  by_cases hlen : l0.length = l1.length
  · have hl : ((l0.length : Int) != (l1.length : Int)) = false := by simp [hlen]
    go_enter Tryz.func111, Tryz.ntmps111
    go_wp2
    go_loopw [13] (fun i wr => ∃ k : Nat, k ≤ l1.length ∧ i = .int .i64 k ∧ Aside0 (Drawn0 w wr) ∧ Aside0 (l0.take k = l1.take k)) (fun i _ => l1.length - (intOf i).toNat)
    case atStart => exact ⟨0, Nat.zero_le _, rfl, ⟨Drawn0.refl w⟩, ⟨rfl⟩⟩
    case round =>
      obtain ⟨k, hk, rfl, HW, HE⟩ := hrel
      by_cases hlt : k < l1.length
      · obtain ⟨ad, rfl, hx⟩ := at_int' HR0.out HW.out.below k (by omega) (by omega)
        obtain ⟨ad2, rfl, hy⟩ := at_int' HR1.out HW.out.below k (by omega) (by omega)
        simp only [Int.toNat_natCast] at hx hy
        have hlt0 : (k : Int) < (l0.length : Int) := by omega
        by_cases he : rd l0 k = rd l1 k
        · have hb : (rd l0 k != rd l1 k) = false := by simp [he]
          have HE2 := Aside0.mk he
          clear he
          go_wp2
          go_quiet (fail)
          go_wp2
          go_roundw
          case rel => exact ⟨k + 1, by omega, by go_num, ⟨HW.out.step _⟩, ⟨by rw [take_succ_rd _ _ (by omega), take_succ_rd _ _ hlt, HE.out, HE2.out]⟩⟩
          case measure => simp [intOf]; omega
        · have hb : (rd l0 k != rd l1 k) = true := by simp [he]
          have HE2 := Aside0.mk he
          clear he
          go_wp2
          go_quiet (fail)
          go_wp2
          go_ret
          exact ⟨by rw [decide_eq_false (fun e => HE2.out (by rw [e]))]; rfl, HW.out.step _⟩
      · go_wp2
        go_ret
        refine ⟨?_, HW.out⟩
        rw [List.take_of_length_le (by omega), List.take_of_length_le (by omega)] at HE
        rw [decide_eq_true HE.out]; rfl
  · have hl : ((l0.length : Int) != (l1.length : Int)) = true := by simp; omega
    go_enter Tryz.func111, Tryz.ntmps111
    go_wp2
    go_ret
    exact ⟨by rw [decide_eq_false (fun e => hlen (by rw [e]))]; rfl, Drawn0.refl w⟩

theorem drop_rd (l : List Int) (k : Nat) (h : k < l.length) : l.drop k = rd l k :: l.drop (k + 1) := by
  rw [List.drop_eq_getElem_cons h, rd_get l k h]
theorem cmp_at (l m : List Int) (k : Nat) (h : k < l.length) (h' : k < m.length) :
    Pl.cmp (l.drop k) (m.drop k) = if rd l k < rd m k then -1 else if rd m k < rd l k then 1 else Pl.cmp (l.drop (k + 1)) (m.drop (k + 1)) := by
  rw [drop_rd l k h, drop_rd m k h']; rfl

/-- What cmp.Compare says of two numbers. -/
def cmpI (a b : Int) : Int := if a < b then -1 else if b < a then 1 else 0

set_option maxHeartbeats 1000000 in
theorem cmp_isNaN_any (a : Int) (w : World) : Calls Tryz.prog 125 #[.int .i64 a] w fun e w' => e = .returned (.bool false) ∧ w = w' := by
  have h : (a != a) = false := by simp
  go_enter Tryz.func125, Tryz.ntmps125
  go_wp2
  go_ret
  exact ⟨rfl, rfl⟩

set_option maxHeartbeats 1000000 in
theorem cmp_Compare_any (a b : Int) (w : World) : Calls Tryz.prog 117 #[.int .i64 a, .int .i64 b] w fun e w' => e = .returned (.int .i64 (cmpI a b)) ∧ w = w' := by
  unfold cmpI
  by_cases h1 : a < b
  · rw [if_pos h1]
    go_enter Tryz.func117, Tryz.ntmps117
    go_wp2_with (go_at_call 125; refine (cmp_isNaN_any _ _).mono ?_; rintro e w' ⟨rfl, rfl⟩)
    go_ret
    exact ⟨rfl, rfl⟩
  · rw [if_neg h1]
    by_cases h2 : b < a
    · rw [if_pos h2]
      go_enter Tryz.func117, Tryz.ntmps117
      go_wp2_with (go_at_call 125; refine (cmp_isNaN_any _ _).mono ?_; rintro e w' ⟨rfl, rfl⟩)
      go_ret
      exact ⟨rfl, rfl⟩
    · rw [if_neg h2]
      go_enter Tryz.func117, Tryz.ntmps117
      go_wp2_with (go_at_call 125; refine (cmp_isNaN_any _ _).mono ?_; rintro e w' ⟨rfl, rfl⟩)
      go_ret
      exact ⟨rfl, rfl⟩

set_option maxHeartbeats 2000000 in
set_option maxRecDepth 100000 in
/-- slices.Compare at rows of numbers. -/
theorem slices_Compare_any (A0 : Option Addr) (c0 : Nat) (l0 : List Int) (A1 : Option Addr) (c1 : Nat) (l1 : List Int) (w : World)
    (hr0 : Kd.C KI w A0 l0.length l0) (hr1 : Kd.C KI w A1 l1.length l1) :
    Calls Tryz.prog 105 #[.slice A0 l0.length c0, .slice A1 l1.length c1] w fun e w' => e = .returned (.int .i64 (Pl.cmp l0 l1)) ∧ Drawn0 w w' := by
  have HR0 := Aside0.mk hr0
  have HR1 := Aside0.mk hr1
  have hm0 : l0.length ≤ 9223372036854775807 := hr0.2.1
  have hm1 : l1.length ≤ 9223372036854775807 := hr1.2.1
  clear hr0 hr1
  go_enter Tryz.func105, Tryz.ntmps105
  go_wp2
  go_loopw [11] (fun i wr => ∃ k : Nat, k ≤ l0.length ∧ k ≤ l1.length ∧ i = .int .i64 k ∧ Aside0 (Drawn0 w wr) ∧ Aside0 (Pl.cmp (l0.drop k) (l1.drop k) = Pl.cmp l0 l1)) (fun i _ => l0.length - (intOf i).toNat)
  case atStart => exact ⟨0, Nat.zero_le _, Nat.zero_le _, rfl, ⟨Drawn0.refl w⟩, ⟨rfl⟩⟩
  case round =>
    obtain ⟨k, hk, hk1, rfl, HW, HE⟩ := hrel
    by_cases hlt : k < l0.length
    · obtain ⟨ad, rfl, hx⟩ := at_int' HR0.out HW.out.below k (by omega) (by omega)
      simp only [Int.toNat_natCast] at hx
      by_cases hlt1 : k < l1.length
      · obtain ⟨ad2, rfl, hy⟩ := at_int' HR1.out HW.out.below k (by omega) (by omega)
        simp only [Int.toNat_natCast] at hy
        have HS := Aside0.mk (cmp_at l0 l1 k hlt hlt1)
        have HC : Hid (cmpI (rd l0 k) (rd l1 k) = if rd l0 k < rd l1 k then -1 else if rd l1 k < rd l0 k then 1 else 0) := Lib.hid rfl
        by_cases hc : cmpI (rd l0 k) (rd l1 k) = 0
        · have hb : (cmpI (rd l0 k) (rd l1 k) != 0) = false := by simp [hc]
          have HC2 := Aside0.mk hc
          clear hc
          go_wp2_with (go_at_call 117; refine (cmp_Compare_any _ _ _).mono ?_; rintro e w' ⟨rfl, rfl⟩)
          go_roundw
          case rel =>
            refine ⟨k + 1, by omega, by omega, by go_num, HW, ⟨?_⟩⟩
            rw [← HE.out, HS.out]
            have h := HC2.out
            rw [HC.out] at h
            split at h
            · simp at h
            · split at h
              · simp at h
              · rw [if_neg ‹_›, if_neg ‹_›]
          case measure => simp [intOf]; omega
        · have hb : (cmpI (rd l0 k) (rd l1 k) != 0) = true := by simp [hc]
          have HC2 := Aside0.mk hc
          clear hc
          go_wp2_with (go_at_call 117; refine (cmp_Compare_any _ _ _).mono ?_; rintro e w' ⟨rfl, rfl⟩)
          go_ret
          refine ⟨?_, HW.out⟩
          rw [← HE.out, HS.out]
          have h := HC2.out
          show Ending.returned (.int .i64 (cmpI _ _)) = _
          rw [HC.out] at h ⊢
          split
          · rfl
          · split
            · rfl
            · rw [if_neg ‹_›, if_neg ‹_›] at h; exact absurd rfl h
      · have hb : decide ((l1.length : Int) ≤ k) = true := by simp; omega
        go_wp2
        go_ret
        refine ⟨?_, HW.out⟩
        rw [← HE.out, List.drop_of_length_le (l := l1) (by omega), drop_rd l0 k hlt]; rfl
    · by_cases hlt1 : l0.length < l1.length
      · go_wp2
        go_ret
        refine ⟨?_, HW.out⟩
        rw [← HE.out, List.drop_of_length_le (l := l0) (by omega), drop_rd l1 k (by omega)]; rfl
      · go_wp2
        go_ret
        refine ⟨?_, HW.out⟩
        rw [← HE.out, List.drop_of_length_le (l := l0) (by omega), List.drop_of_length_le (l := l1) (by omega)]; rfl

set_option maxHeartbeats 1000000 in
/-- tuple.Compare. -/
theorem tuple_Compare_any (A0 : Option Addr) (c0 : Nat) (l0 : List Int) (A1 : Option Addr) (c1 : Nat) (l1 : List Int) (w : World)
    (hr0 : Kd.C KI w A0 l0.length l0) (hr1 : Kd.C KI w A1 l1.length l1) :
    Calls Tryz.prog 83 #[.slice A0 l0.length c0, .slice A1 l1.length c1] w fun e w' => e = .returned (.int .i64 (Pl.cmp l0 l1)) ∧ Drawn0 w w' := by
  have HR0 := Aside0.mk hr0
  have HR1 := Aside0.mk hr1
  clear hr0 hr1
  go_enter Tryz.func83, Tryz.ntmps83
  go_wp2_with (go_at_call 105; refine (slices_Compare_any _ _ _ _ _ _ _ HR0.out HR1.out).mono ?_; rintro e w' ⟨rfl, hd⟩)
  go_ret
  exact ⟨rfl, hd⟩
end Go.Proofs.YtlmkgghpaaadhaaGreatDoor.G

/- Functions that only read rows of numbers: tuple.Rising, slices.Index. -/
set_option linter.unusedVariables false
set_option linter.unusedSimpArgs false
namespace Go.Proofs.YtlmkgghpaaadhaaGreatDoor.G
open Go.RowKit Go.Proofs.YtlmkgghpaaadhaaGreatDoorW.PrintWords Go.Proofs.YtlmkgghpaaadhaaGreatDoorW.PrintLast Go.Proofs.YtlmkgghpaaadhaaGreatDoorW.PrintMore

def Rise (l : List Int) : Prop := l.Pairwise (· < ·)
instance (l : List Int) : Decidable (Rise l) := inferInstanceAs (Decidable (List.Pairwise _ _))
def idx (l : List Int) (x : Int) : Int := if x ∈ l then (l.idxOf x : Int) else -1

set_option maxHeartbeats 1000000 in
set_option maxRecDepth 100000 in
theorem slices_Index_any (A0 : Option Addr) (c0 : Nat) (l0 : List Int) (x : Int) (w : World) (hr0 : Kd.C KI w A0 l0.length l0) :
    Calls Tryz.prog 74 #[.slice A0 l0.length c0, .int .i64 x] w fun e w' => e = .returned (.int .i64 (idx l0 x)) ∧ w = w' := by
  have HR0 := Aside0.mk hr0
  have hm0 : l0.length ≤ 9223372036854775807 := hr0.2.1
  clear hr0
  go_enter Tryz.func74, Tryz.ntmps74
  go_wp2
  go_loop [8] (fun i => ∃ k : Nat, k ≤ l0.length ∧ i = .int .i64 k ∧ Aside0 (x ∉ l0.take k)) (fun i => l0.length - (intOf i).toNat)
  case atStart => exact ⟨0, Nat.zero_le _, rfl, ⟨by simp⟩⟩
  case round =>
    obtain ⟨k, hk, rfl, HE⟩ := hrel
    by_cases hlt : k < l0.length
    · obtain ⟨ad, rfl, hx⟩ := at_int' HR0.out (Below.refl _ _) k (by omega) (by omega)
      simp only [Int.toNat_natCast] at hx
      have HS := Aside0.mk (take_succ_rd l0 k hlt)
      by_cases hc : x = rd l0 k
      · have hb : (x == rd l0 k) = true := by simp [hc]
        have hb' : (rd l0 k == x) = true := by simp [hc]
        have hi : Aside0 (idx l0 x = k) := ⟨by
          have hm : x ∈ l0 := by rw [hc, rd_get l0 k hlt]; exact List.getElem_mem hlt
          unfold idx
          rw [if_pos hm]
          have hn := HE.out
          have h1 : l0.idxOf x ≤ k := by
            have h2 := List.idxOf_lt_length_of_mem hm
            rcases Nat.lt_or_ge k (l0.idxOf x) with h3 | h3
            · have := List.not_of_lt_findIdx (p := (· == x)) (xs := l0) h3
              have hck : l0[k] = x := by rw [hc, rd_get l0 k hlt]
              exact absurd this (by simp [hck])
            · exact h3
          have h2 : ¬ l0.idxOf x < k := fun h3 => hn (by
            have h4 := List.idxOf_lt_length_of_mem hm
            refine List.mem_take_iff_getElem.2 ⟨l0.idxOf x, by omega, ?_⟩
            exact List.getElem_idxOf h4)
          omega⟩
        have HC2 := Aside0.mk hc
        clear hc
        go_wp2
        go_ret
        exact ⟨by rw [hi.out]; rfl, rfl⟩
      · have hb : (x == rd l0 k) = false := by simp [hc]
        have hb' : (rd l0 k == x) = false := by simp; exact fun e => hc e.symm
        have HC2 := Aside0.mk hc
        clear hc
        go_wp2
        go_round
        case rel => exact ⟨k + 1, by omega, by go_num, ⟨by rw [HS.out]; simp only [List.mem_append, List.mem_singleton, not_or]; exact ⟨HE.out, HC2.out⟩⟩⟩
        case measure => simp [intOf]; omega
    · have hi : Aside0 (idx l0 x = -1) := ⟨by
        have h := HE.out
        rw [List.take_of_length_le (by omega)] at h
        unfold idx
        rw [if_neg h]⟩
      go_wp2
      go_ret
      exact ⟨by rw [hi.out]; rfl, rfl⟩
end Go.Proofs.YtlmkgghpaaadhaaGreatDoor.G

set_option linter.unusedVariables false
set_option linter.unusedSimpArgs false
namespace Go.Proofs.YtlmkgghpaaadhaaGreatDoor.G
open Go.RowKit Go.Proofs.YtlmkgghpaaadhaaGreatDoorW.PrintWords Go.Proofs.YtlmkgghpaaadhaaGreatDoorW.PrintLast Go.Proofs.YtlmkgghpaaadhaaGreatDoorW.PrintMore

set_option maxHeartbeats 1000000 in
set_option maxRecDepth 100000 in
theorem slices_Clone_any (A0 : Option Addr) (c0 : Nat) (l0 : List Int) (w : World) (hr0 : Kd.C KI w A0 l0.length l0) (hl : l0.length < 17592186044416) :
    Calls Tryz.prog 53 #[.slice A0 l0.length c0] w fun e w' => ∃ v, e = .returned v ∧ Kd.R KI 3 w' w.heap.size AnyB v l0 ∧ Below w.heap.size w w' := by
  have q22 : ∀ (w : World) (a : Option Addr) (n c n' c' : Nat), (binOp .eql 22 (.slice a n c) (.slice none n' c')).run Tryz.prog w = .ok (.bool a.isNone) w := fun w a n c n' c' => Lib.run_eql_slice_nil w _ _ a n c n' c' Tryz.underlying22
  have HR0 := Aside0.mk hr0
  clear hr0
  rcases A0 with _ | ad
  · have hl0 : l0 = [] := nil_of_none HR0.out
    subst hl0
    go_enter Tryz.func53, Tryz.ntmps53
    go_wp2
    go_ret
    exact ⟨_, rfl, Kd.R_nil _ _ _ _ _, Below.refl _ _⟩
  · go_enter Tryz.func53, Tryz.ntmps53
    go_wp2_with (at_builtin; refine app_ints (w := w) w.heap.size rfl (.tmp 5) (.tmp 6) rfl _ [] l0 (some ad) c0 rfl rfl ⟨R_lit0 w⟩ (Kd.C_below HR0.out (below_alloc (Below.refl _ _) _)) ⟨below_alloc (Below.refl _ _) _⟩ (by simp) (by simp; omega) ?_; intro v1 w1 HO HB HG)
    go_ret
    exact ⟨_, rfl, HO.out, HB.out⟩
/-- A row out of a row of rows that is read. -/
theorem at_row {w w1 : World} {A : Option Addr} {n : Nat} {L : List (List Int)} (h : Kd.C KL w A n L) (hb : Below w.heap.size w w1) (k : Nat) (hk : k < n) :
    ∃ ad B c, A = some ad ∧ w1.cell? (ad.add k) = some (.slice B (L.getD k []).length c) ∧ (L.getD k []).length ≤ c ∧ Kd.C KI w1 B (L.getD k []).length (L.getD k []) := by
  obtain ⟨ad, cs, e, _, hK, hc⟩ := Kd.C_get (Kd.C_below h hb) ([] : List Int) (k : Int) (by omega) (by omega)
  obtain ⟨B, c, rfl, hl, hr⟩ := hK
  have h0 := hc 0 _ rfl
  rw [show KL.sz = 1 from rfl, Nat.mul_one, Nat.add_zero, Int.toNat_natCast] at h0
  exact ⟨ad, B, c, e, h0, hl, hr⟩

end Go.Proofs.YtlmkgghpaaadhaaGreatDoor.G

/- tuple.Pick: a row's numbers at some places. -/
set_option linter.unusedVariables false
set_option linter.unusedSimpArgs false
namespace Go.Proofs.YtlmkgghpaaadhaaGreatDoor.G
open Go.RowKit Go.Proofs.YtlmkgghpaaadhaaGreatDoorW.PrintWords Go.Proofs.YtlmkgghpaaadhaaGreatDoorW.PrintLast Go.Proofs.YtlmkgghpaaadhaaGreatDoorW.PrintMore

def pick (t : List Int) (ps : List Int) : List Int := ps.filterMap fun (p : Int) => if 0 ≤ p ∧ p < (t.length : Int) then some (rd t p) else none

theorem pick_snoc_in (t ps : List Int) (p : Int) (h0 : 0 ≤ p) (h1 : p < t.length) : pick t (ps ++ [p]) = pick t ps ++ [rd t p] := by
  simp [pick, List.filterMap_append, h0, h1]
theorem pick_snoc_out (t ps : List Int) (p : Int) (h : ¬ (0 ≤ p ∧ p < t.length)) : pick t (ps ++ [p]) = pick t ps := by
  simp only [pick, List.filterMap_append, List.filterMap_cons, List.filterMap_nil]; rw [if_neg h]; simp

set_option maxHeartbeats 1000000 in
set_option maxRecDepth 100000 in
theorem tuple_Pick_any (A0 : Option Addr) (c0 : Nat) (l0 : List Int) (A1 : Option Addr) (c1 : Nat) (l1 : List Int) (w : World)
    (hr0 : Kd.C KI w A0 l0.length l0) (hr1 : Kd.C KI w A1 l1.length l1) (hL : l1.length ≤ 1000000000) :
    Calls Tryz.prog 76 #[.slice A0 l0.length c0, .slice A1 l1.length c1] w fun e w' => ∃ v, e = .returned v ∧ Kd.R KI 3 w' w.heap.size AnyB v (pick l0 l1) ∧ Below w.heap.size w w' := by
  have HR0 := Aside0.mk hr0
  have HR1 := Aside0.mk hr1
  clear hr0 hr1
  obtain ⟨i0, hi, hz0, hz1, hz2⟩ := info_parts infoInt
  obtain ⟨w1, hmk, hown, hg⟩ := run_make_own (P := Tryz.prog) w w.heap.size 22 3 i0 (.int .i64 0) 1 Tryz.underlying22 hi hz0 hz1 .i64 .i64 l1.length (by rw [hz2]; omega) (by unfold maxLen; omega) (Nat.le_refl _)
  go_enter Tryz.func76, Tryz.ntmps76
  go_wp2
  have H0 := Aside0.mk hown
  have H1 := Aside0.mk hg
  clear hown hg hmk
  go_loopw [5, 13] (fun v i wr => ∃ k : Nat, k ≤ l1.length ∧ i = .int .i64 k ∧ Aside0 (Kd.R KI 3 wr w.heap.size AnyB v (pick l0 (l1.take k))) ∧ Aside0 (Below w.heap.size w wr)) (fun _ i _ => l1.length - (intOf i).toNat)
  case atStart => exact ⟨0, Nat.zero_le _, rfl, ⟨R_made _ _ _ H0.out⟩, ⟨(Below.refl _ _).grown H1.out (Nat.le_refl _) (fun _ h => by cases h)⟩⟩
  case round =>
    obtain ⟨k, hk, rfl, HO, HB⟩ := hrel
    by_cases hlt : k < l1.length
    · obtain ⟨ad, rfl, hx⟩ := Kd.at_int HR1.out k (by omega) (by omega)
      replace hx := (HB.out.cell (World.block_lt_of_cell? w _ hx)).trans hx
      simp only [Int.toNat_natCast] at hx
      have ht : Hid (l1.take (k + 1) = l1.take k ++ [rd l1 k]) := Lib.hid (by rw [List.take_succ_eq_append_getElem hlt]; simp [rd, List.getD_eq_getElem?_getD, hlt])
      have hpl : (pick l0 (l1.take k)).length ≤ k := by unfold pick; exact Nat.le_trans (List.length_filterMap_le _ _) (by simp; omega)
      by_cases hp0 : 0 ≤ rd l1 k
      · by_cases hp1 : rd l1 k < l0.length
        · obtain ⟨ad2, rfl, hy⟩ := Kd.at_int HR0.out _ hp0 hp1
          replace hy := (HB.out.cell (World.block_lt_of_cell? w _ hy)).trans hy
          go_wp2_with (at_builtin; refine app_int (w := w) w.heap.size rfl (.tmp 25) (.tmp 30) rfl _ (pick l0 (l1.take k)) (rd l0 (rd l1 k)) rfl rfl HO HB HB.out.size (by omega) ?_; clear HO HB; intro v1 w2 HO HB HG)
          go_roundw
          case rel => exact ⟨k + 1, by omega, by go_num, by rw [ht.out, pick_snoc_in _ _ _ hp0 hp1]; exact HO, HB⟩
          case measure => simp [intOf]; omega
        · go_wp2
          go_roundw
          case rel => exact ⟨k + 1, by omega, by go_num, by rw [ht.out, pick_snoc_out _ _ _ (by omega)]; exact HO, HB⟩
          case measure => simp [intOf]; omega
      · go_wp2
        go_roundw
        case rel => exact ⟨k + 1, by omega, by go_num, by rw [ht.out, pick_snoc_out _ _ _ (by omega)]; exact HO, HB⟩
        case measure => simp [intOf]; omega
    · go_wp2
      go_ret
      exact ⟨_, rfl, by rw [List.take_of_length_le (by omega)] at HO; exact HO.out, HB.out⟩
end Go.Proofs.YtlmkgghpaaadhaaGreatDoor.G
