/- join.Semijoin: the rows of the first that go with something of the second. -/
import Derived.Test.YtlmkgghpaaadhaaGreatDoorMO
import Derived.Test.YtlmkgghpaaadhaaGreatDoorMD
set_option linter.unusedVariables false
set_option linter.unusedSimpArgs false
namespace Go.Proofs.YtlmkgghpaaadhaaGreatDoor.G
open Go.RowKit Go.Proofs.YtlmkgghpaaadhaaGreatDoorW.PrintWords Go.Proofs.YtlmkgghpaaadhaaGreatDoorW.PrintLast Go.Proofs.YtlmkgghpaaadhaaGreatDoorW.PrintMore

/-- All that there was but for block g. -/
structure But (w : World) (g : Nat) (W : World) : Prop where
  os : W.os = w.os
  tape : W.tape = w.tape
  output : W.output = w.output
  size : w.heap.size ≤ W.heap.size
  block : ∀ k, k < w.heap.size → k ≠ g → W.heap[k]? = w.heap[k]?
theorem But.of {w W : World} (g : Nat) (h : Below w.heap.size w W) : But w g W := ⟨h.os, h.tape, h.output, h.size, fun k hk _ => h.block k hk⟩
theorem But.step {w W W1 : World} {g : Nat} (h : But w g W) (hb : Below W.heap.size W W1) : But w g W1 :=
  ⟨hb.os.trans h.os, hb.tape.trans h.tape, hb.output.trans h.output, Nat.le_trans h.size hb.size, fun k hk hg => (hb.block k (Nat.lt_of_lt_of_le hk h.size)).trans (h.block k hk hg)⟩
theorem But.set {w W : World} {g : Nat} (h : But w g W) (i : Nat) (u : Value) : But w g (W.setCell ⟨g, i, none⟩ u) :=
  ⟨h.os, h.tape, h.output, by simpa [World.setCell] using h.size, fun k hk hg => (Below.heap_setCell _ _ _ _ hg).trans (h.block k hk hg)⟩
theorem But.grown {w W W1 : World} {g : Nat} {row : Option Nat} (h : But w g W) (hg : W.grownBy W1 row) (hr : ∀ k, row = some k → w.heap.size ≤ k) : But w g W1 :=
  ⟨hg.os.trans h.os, hg.tape.trans h.tape, hg.output.trans h.output, Nat.le_trans h.size hg.size, fun k hk hne => (hg.block k (Nat.lt_of_lt_of_le hk h.size) (fun e => by have := hr k e.symm; omega)).trans (h.block k hk hne)⟩
theorem But.below {w0 w W : World} {g B : Nat} (h : But w g W) (hb : Below B w0 w) (h1 : B ≤ w.heap.size) (h2 : B ≤ g) : Below B w0 W :=
  ⟨h.os.trans hb.os, h.tape.trans hb.tape, h.output.trans hb.output, Nat.le_trans hb.size h.size, fun k hk => (h.block k (Nat.lt_of_lt_of_le hk h1) (by omega)).trans (hb.block k hk)⟩
theorem But.pre {w0 w W : World} {g : Nat} (h : But w g W) (hb : Below w0.heap.size w0 w) : But w0 g W :=
  ⟨h.os.trans hb.os, h.tape.trans hb.tape, h.output.trans hb.output, Nat.le_trans hb.size h.size, fun k hk hg => (h.block k (Nat.lt_of_lt_of_le hk hb.size) hg).trans (hb.block k hk)⟩
theorem But.R {w W : World} {g base e : Nat} {α : Type} {d : Kd α} {v : Value} {xs : List α} (h : But w g W) {ok : Nat → Prop} (hr : d.R e w base (fun k => ok k ∧ k ≠ g) v xs) : d.R e W base (fun k => ok k ∧ k ≠ g) v xs :=
  Kd.R_step hr fun k hk hlt => h.block k hlt hk.2
/-- The look-up in later worlds: the slice that a text has, and where it lies. -/
theorem Groups.look {P : Program} {k t e : TypeId} {W : World} {b base m : Nat} {ok : Nat → Prop} {G : List UInt8 → List (List Int)} (h : Groups P k W b base m ok G) (hk : P.underlying k = some .string) (ht : P.underlying t = some (.map k e)) (hz : ∀ W, (zeroValue e).run P W = .ok nilV W)
    {g : Nat} (hgb : g ≠ b) (hgo : ¬ ok g) (hgf : g < base ∨ W.heap.size ≤ g) (s : ByteArray) (hs : s.size ≤ Go.maxLen) :
    ∃ A c, (∀ W1, But W g W1 → (Instr.lookup t (.map (some b)) (.string s) false).run P W1 = .ok (.slice A (G s.data.toList).length c) W1) ∧ (G s.data.toList).length ≤ c ∧ Kd.F KL W (fun q => q ≠ g) A (G s.data.toList).length (G s.data.toList) := by
  obtain ⟨f, fam, h1, h2, h3, h4, h5, h6⟩ := h
  obtain ⟨A, c, e, hl, hC⟩ := Kd.N_reads (h4 s.data.toList)
  refine ⟨A, c, fun W1 hb => ?_, hl, ?_⟩
  · have hM : MapV P k W1 b f m := h1.kept (row := some g) ⟨hb.os, hb.tape, hb.output, hb.size, fun k hk hne => hb.block k hk (fun e => hne (by rw [e]))⟩ (fun e => hgb (Option.some.inj e).symm)
    rw [hM.lookup hk ht (hz W1) s hs, e]
  · have h7 := h4 s.data.toList
    rw [e] at h7
    refine Kd.F_mono (Kd.N_F h7) fun q hq => ?_
    rintro rfl
    rcases hq with hq | hq
    · exact hgo hq
    · have := h5 _ q hq
      omega

/-- Four cells, and all that there was. -/
theorem S4.step {w1 W W1 : World} {p q r s : Addr} {a b c d : Value} (h : W.cell? p = some a ∧ W.cell? q = some b ∧ W.cell? r = some c ∧ W.cell? s = some d ∧ Below w1.heap.size w1 W) (hb : Below W.heap.size W W1) :
    W1.cell? p = some a ∧ W1.cell? q = some b ∧ W1.cell? r = some c ∧ W1.cell? s = some d ∧ Below w1.heap.size w1 W1 :=
  ⟨(hb.cell (World.block_lt_of_cell? W _ h.1)).trans h.1, (hb.cell (World.block_lt_of_cell? W _ h.2.1)).trans h.2.1, (hb.cell (World.block_lt_of_cell? W _ h.2.2.1)).trans h.2.2.1, (hb.cell (World.block_lt_of_cell? W _ h.2.2.2.1)).trans h.2.2.2.1, below_then h.2.2.2.2 h.2.2.2.2.size hb⟩
theorem S4.start {w1 : World} {p q r s : Addr} {a b c d : Value} (h0 : w1.cell? p = some a) (h1 : w1.cell? q = some b) (h2 : w1.cell? r = some c) (h3 : w1.cell? s = some d) :
    w1.cell? p = some a ∧ w1.cell? q = some b ∧ w1.cell? r = some c ∧ w1.cell? s = some d ∧ Below w1.heap.size w1 w1 := ⟨h0, h1, h2, h3, Below.refl _ _⟩
theorem S4.of {w1 W : World} {p q r s : Addr} {a b c d : Value} (h : W.cell? p = some a ∧ W.cell? q = some b ∧ W.cell? r = some c ∧ W.cell? s = some d ∧ Below w1.heap.size w1 W) : Below w1.heap.size w1 W := h.2.2.2.2
theorem cell_set_ne {W : World} {p : Addr} {a : Value} {g : Nat} (h : W.cell? p = some a) (hne : p.block ≠ g) (i : Nat) (u : Value) : (W.setCell ⟨g, i, none⟩ u).cell? p = some a :=
  (World.cell?_of_block (Below.heap_setCell W ⟨g, i, none⟩ u p.block hne)).trans h
theorem S4.set {w1 W : World} {p q r s : Addr} {a b c d : Value} (h : W.cell? p = some a ∧ W.cell? q = some b ∧ W.cell? r = some c ∧ W.cell? s = some d ∧ Below w1.heap.size w1 W) {g : Nat} (hg : w1.heap.size ≤ g)
    (hp : p.block < w1.heap.size ∧ q.block < w1.heap.size ∧ r.block < w1.heap.size ∧ s.block < w1.heap.size) (i : Nat) (u : Value) :
    (W.setCell ⟨g, i, none⟩ u).cell? p = some a ∧ (W.setCell ⟨g, i, none⟩ u).cell? q = some b ∧ (W.setCell ⟨g, i, none⟩ u).cell? r = some c ∧ (W.setCell ⟨g, i, none⟩ u).cell? s = some d ∧ Below w1.heap.size w1 (W.setCell ⟨g, i, none⟩ u) :=
  ⟨cell_set_ne h.1 (by omega) _ _, cell_set_ne h.2.1 (by omega) _ _, cell_set_ne h.2.2.1 (by omega) _ _, cell_set_ne h.2.2.2.1 (by omega) _ _, h.2.2.2.2.setCell (p := ⟨g, i, none⟩) hg u⟩

theorem UnInv.but {w w1 W : World} {a0 a1 b0 b1 : Value} {g : Nat} (h : UnInv w a0 a1 b0 b1 w1) (hb : But w1 g W) (hg : w.heap.size + 1 + 1 < g) : UnInv w a0 a1 b0 b1 W := by
  obtain ⟨x, y, hC⟩ := h.C
  exact ⟨hb.below h.bel h.bel.size (by omega), (hb.block _ (Array.getElem?_eq_some_iff.1 h.A).1 (by omega)).trans h.A, (hb.block _ (Array.getElem?_eq_some_iff.1 h.B).1 (by omega)).trans h.B, x, y, (hb.block _ (Array.getElem?_eq_some_iff.1 hC).1 (by omega)).trans hC⟩
/-- Between two rounds: the answer's box in block g, its rows behind all that there was. -/
structure RowsOut (w4 : World) (g : Nat) (s0 s1 : Value) (xs : List (List Int)) (W : World) : Prop where
  but : But w4 g W
  blk : W.heap[g]? = some (.cells #[s0, s1] 31 (0, 0))
  rows : Kd.N KL 22 W w4.heap.size (fun k => w4.heap.size ≤ k ∧ k ≠ g) s1 xs
theorem RowsOut.new {w4 : World} (s0 : Value) : RowsOut w4 w4.heap.size s0 (.slice none 0 0) [] (w4.alloc (.cells #[s0, .slice none 0 0] 31)) :=
  ⟨But.of _ (below_alloc (Below.refl _ _) _), heap_alloc_new w4 _, Kd.N_nil _ _ _ _ _⟩
theorem RowsOut.old {w4 : World} {g : Nat} (hk : w4.heap[g]? = some (.cells #[.slice none 0 0, .slice none 0 0] 31 (0, 0))) (s0 : Value) : RowsOut w4 g s0 (.slice none 0 0) [] ((w4.setCell ⟨g, 0, none⟩ s0).setCell ⟨g, 1, none⟩ (.slice none 0 0)) :=
  ⟨((But.of g (Below.refl _ _)).set 0 _).set 1 _, blk2_s1 (blk2_s0 hk _) _, Kd.N_nil _ _ _ _ _⟩
theorem RowsOut.step {w4 W W1 : World} {g : Nat} {s0 s1 : Value} {xs : List (List Int)} (h : RowsOut w4 g s0 s1 xs W) (hb : Below W.heap.size W W1) : RowsOut w4 g s0 s1 xs W1 :=
  ⟨h.but.step hb, (hb.block _ (Array.getElem?_eq_some_iff.1 h.blk).1).trans h.blk, Kd.N_below h.rows hb⟩
theorem RowsOut.at1 {w4 W W4 w1 : World} {g : Nat} {s0 s1 : Value} {xs : List (List Int)} (h : RowsOut w4 g s0 s1 xs W) (hb : Below W.heap.size W W4) (hg : W4.grownBy w1 s1.ownBlock) : w1.heap[g]? = some (.cells #[s0, s1] 31 (0, 0)) := by
  have hgl := (Array.getElem?_eq_some_iff.1 h.blk).1
  exact (hg.block g (Nat.lt_of_lt_of_le hgl hb.size) (Kd.N_away h.rows (fun k hk => hk.2))).trans ((hb.block g hgl).trans h.blk)
theorem RowsOut.push {w4 W W4 w1 : World} {g : Nat} {s0 s1 v1 : Value} {xs ys : List (List Int)} (h : RowsOut w4 g s0 s1 xs W) (hb : Below W.heap.size W W4) (hg : W4.grownBy w1 s1.ownBlock)
    (hN : Kd.N KL 22 w1 w4.heap.size (fun k => w4.heap.size ≤ k ∧ k ≠ g) v1 ys) : RowsOut w4 g s0 v1 ys (w1.setCell ⟨g, 1, none⟩ v1) :=
  ⟨((h.but.step hb).grown hg (fun k e => Kd.N_base h.rows k e)).set 1 v1, blk2_s1 (h.at1 hb hg) v1, Kd.N_far hN (p := ⟨g, 1, none⟩) (fun k hk => hk.2) v1⟩

end Go.Proofs.YtlmkgghpaaadhaaGreatDoor.G
