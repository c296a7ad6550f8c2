/- Words that all walks of this claim use: kinds of rows, append. -/
import Derived.Test.YtlinhcgggfdlpaaProg
import Derived.Test.YtlinhcgggfdlpaaWWords
import Derived.Test.YtlinhcgggfdlpaaWMore
import Derived.Test.YtlinhcgggfdlpaaWNEv
import Derived.Lib.Hide
import Derived.Lib.SliceRun
import Derived.WalkSpells
set_option linter.unusedVariables false
set_option linter.unusedSimpArgs false
namespace Go.Proofs.Ytlinhcgggfdlpaa.G
open Go.RowKit Go.Proofs.YtlinhcgggfdlpaaW.PrintWords Go.Proofs.YtlinhcgggfdlpaaW.PrintLast Go.Proofs.YtlinhcgggfdlpaaW.PrintMore

abbrev tInt : Nat := 3
abbrev tInts : Nat := 22
abbrev tRows : Nat := 23
abbrev KI : Kd Int := Kd.int .i64
abbrev KL : Kd (List Int) := Kd.slice 3 (Kd.int .i64)
abbrev AnyB : Nat → Prop := fun _ => True
theorem infoInt : (Try.prog.info? 3).map (fun i => (i.zero, i.size, i.bytes)) = some (some (.int .i64 0), 1, 8) := by kernel_rfl
theorem infoInts : (Try.prog.info? 22).map (fun i => (i.zero, i.size, i.bytes)) = some (some (.slice none 0 0), 1, 24) := by kernel_rfl

section
variable {ops : Array Oper} {rest : List Oper} {o : Oper} {a : Act} {Q : Exit → Act → World → Prop}
/-- append of one number. -/
theorem app_int {w W : World} (base : Nat) (hgd : o.guard = none) (s x : Operand) (ho : o.op = .call { callee := .builtin .append, args := #[s, x], argTypes := #[22, 22] })
    (v : Value) (xs : List Int) (y : Int) (hs : a.eval s = v) (hx : a.eval x = .slice (some ⟨W.heap.size, 0, none⟩) 1 1)
    (HO : Aside0 (Kd.R KI 3 W base AnyB v xs)) (HB : Aside0 (Below base w W)) (hbase : base ≤ W.heap.size) (hl : xs.length < 17592186044416)
    (h : ∀ v1 w1, Aside0 (Kd.R KI 3 w1 base AnyB v1 (xs ++ [y])) → Aside0 (Below base w w1) → Aside0 (W.grownBy w1 v.ownBlock) → wpList Try.prog ops Q rest (a.put o.dst v1) w1) :
    wpList Try.prog ops Q (o :: rest) a (W.alloc (.cells #[.int .i64 y] 3)) :=
  Kd.R_append KI base hgd s x 22 3 (.int .i64 0) 8 ho Try.underlying22 infoInt rfl (by decide) (by omega) v xs y [.int .i64 y] AnyB (fun _ => False) hs hx rfl (fun _ hk => hk.elim) (fun _ _ => trivial)
    HO.out HB.out hbase (by omega) (fun v1 w1 ho hb hg _ => h v1 w1 ⟨ho⟩ ⟨hb⟩ ⟨hg⟩)
/-- append of a row of numbers. -/
theorem app_ints {w W : World} (base : Nat) (hgd : o.guard = none) (s x : Operand) (ho : o.op = .call { callee := .builtin .append, args := #[s, x], argTypes := #[22, 22] })
    (v : Value) (xs ys : List Int) (A : Option Addr) (c : Nat) (hs : a.eval s = v) (hx : a.eval x = .slice A ys.length c)
    (HO : Aside0 (Kd.R KI 3 W base AnyB v xs)) (HR : Kd.C KI W A ys.length ys) (HB : Aside0 (Below base w W)) (hbase : base ≤ W.heap.size) (hl : xs.length + ys.length < 17592186044416)
    (h : ∀ v1 w1, Aside0 (Kd.R KI 3 w1 base AnyB v1 (xs ++ ys)) → Aside0 (Below base w w1) → Aside0 (W.grownBy w1 v.ownBlock) → wpList Try.prog ops Q rest (a.put o.dst v1) w1) :
    wpList Try.prog ops Q (o :: rest) a W :=
  Kd.R_append_rows KI base hgd s x 22 3 (.int .i64 0) 8 ho Try.underlying22 infoInt rfl (by decide) (by omega) v xs ys A _ c AnyB (fun _ => False) hs hx HO.out HR (fun _ _ h => h) (fun _ hk => hk.elim) (fun _ _ => trivial)
    HB.out hbase (by omega) (fun v1 w1 ho hb hg _ => h v1 w1 ⟨ho⟩ ⟨hb⟩ ⟨hg⟩)
end

theorem R_made (w w1 : World) (n : Nat) (hown : w1.ownsRow w.heap.size 3 1 (.slice (some ⟨w.heap.size, 0, none⟩) 0 n) 0 []) : Kd.R KI 3 w1 w.heap.size AnyB (.slice (some ⟨w.heap.size, 0, none⟩) 0 n) [] :=
  ⟨fun _ _ => trivial, [], hown, Reps.none _ _⟩
theorem R_lit0 (w : World) : Kd.R KI 3 (w.alloc (.cells #[] 3)) w.heap.size AnyB (.slice (some ⟨w.heap.size, 0, none⟩) 0 0) [] :=
  ⟨fun _ _ => trivial, [], World.ownsRow_made w #[] 0 (Nat.le_refl _) (Nat.zero_le _) (by simp), Reps.none _ _⟩
/-- A number of a row that is read, in a later world. -/
theorem at_int' {w w1 : World} {A : Option Addr} {n : Nat} {xs : List Int} (h : Kd.C KI w A n xs) (hb : Below w.heap.size w w1) (i : Int) (h0 : 0 ≤ i) (h1 : i < n) : ∃ ad, A = some ad ∧ w1.cell? (ad.add i.toNat) = some (.int .i64 (rd xs i)) := by
  obtain ⟨ad, e, hx⟩ := Kd.at_int h i h0 h1
  exact ⟨ad, e, (hb.cell (World.block_lt_of_cell? w _ hx)).trans hx⟩
theorem nil_of_none {α : Type} {d : Kd α} {w : World} {l : List α} (h : Kd.C d w none l.length l) : l = [] := by
  rcases Nat.eq_zero_or_pos l.length with h0 | h0
  · exact List.eq_nil_of_length_eq_zero h0
  · obtain ⟨ad, h, _⟩ := h.2.2 h0
    cases h
theorem take_succ_rd (l : List Int) (k : Nat) (h : k < l.length) : l.take (k + 1) = l.take k ++ [rd l k] := by
  rw [List.take_succ_eq_append_getElem h]; simp [rd, List.getD_eq_getElem?_getD, h]
theorem rd_get (l : List Int) (k : Nat) (h : k < l.length) : rd l k = l[k] := by simp [rd, List.getD_eq_getElem?_getD, h]
/-- What is left behind a row's first number. -/
theorem cut1 (A : Option Addr) (c : Nat) (m : List Int) (h1 : 1 ≤ m.length) (hc : m.length ≤ c) :
    ∃ A', (∀ W : World, (Instr.slice 22 (.slice A m.length c) (some (.int .i64 1)) none none).run Try.prog W = .ok (.slice A' (m.drop 1).length (c - 1)) W) ∧ (∀ w : World, Kd.C KI w A m.length m → Kd.C KI w A' (m.drop 1).length (m.drop 1)) ∧ (m.drop 1).length ≤ c - 1 := by
  obtain ⟨i0, hi, _, hz1, _⟩ := info_parts infoInt
  obtain ⟨A', h1, h2, h3⟩ := print_drop_of (P := Try.prog) (Value.int .i64) (0 : Int) 22 3 .i64 Try.underlying22 hi hz1 A c m 1 (by omega) (by omega) hc
  exact ⟨A', h1, fun w h => Kd.C_of_reads (h1 := fun _ => rfl) (d := (0 : Int)) (h2 w (Kd.reads_of_C (h1 := fun _ => rfl) h)), h3⟩
end Go.Proofs.Ytlinhcgggfdlpaa.G
