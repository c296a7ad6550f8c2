/- join.Semijoin: the rows of the first that go with something of the second. -/
import Derived.Test.YtpimooejnpdlpaaGreatDoorMO
import Derived.Test.YtpimooejnpdlpaaGreatDoorMD
set_option linter.unusedVariables false
set_option linter.unusedSimpArgs false
namespace Go.Proofs.YtpimooejnpdlpaaGreatDoor.G
open Go.RowKit Go.Proofs.YtpimooejnpdlpaaGreatDoorW.PrintWords Go.Proofs.YtpimooejnpdlpaaGreatDoorW.PrintLast Go.Proofs.YtpimooejnpdlpaaGreatDoorW.PrintMore

/-- All that there was but for block g. -/
structure But (w : World) (g : Nat) (W : World) : Prop where
  os : W.os = w.os
  tape : W.tape = w.tape
  output : W.output = w.output
  size : w.heap.size ≤ W.heap.size
  block : ∀ k, k < w.heap.size → k ≠ g → W.heap[k]? = w.heap[k]?
theorem But.of {w W : World} (g : Nat) (h : Below w.heap.size w W) : But w g W := ⟨h.os, h.tape, h.output, h.size, fun k hk _ => h.block k hk⟩
theorem But.step {w W W1 : World} {g : Nat} (h : But w g W) (hb : Below W.heap.size W W1) : But w g W1 :=
  ⟨hb.os.trans h.os, hb.tape.trans h.tape, hb.output.trans h.output, Nat.le_trans h.size hb.size, fun k hk hg => (hb.block k (Nat.lt_of_lt_of_le hk h.size)).trans (h.block k hk hg)⟩
theorem But.set {w W : World} {g : Nat} (h : But w g W) (i : Nat) (u : Value) : But w g (W.setCell ⟨g, i, none⟩ u) :=
  ⟨h.os, h.tape, h.output, by simpa [World.setCell] using h.size, fun k hk hg => (Below.heap_setCell _ _ _ _ hg).trans (h.block k hk hg)⟩
theorem But.grown {w W W1 : World} {g : Nat} {row : Option Nat} (h : But w g W) (hg : W.grownBy W1 row) (hr : ∀ k, row = some k → w.heap.size ≤ k) : But w g W1 :=
  ⟨hg.os.trans h.os, hg.tape.trans h.tape, hg.output.trans h.output, Nat.le_trans h.size hg.size, fun k hk hne => (hg.block k (Nat.lt_of_lt_of_le hk h.size) (fun e => by have := hr k e.symm; omega)).trans (h.block k hk hne)⟩
theorem But.below {w0 w W : World} {g B : Nat} (h : But w g W) (hb : Below B w0 w) (h1 : B ≤ w.heap.size) (h2 : B ≤ g) : Below B w0 W :=
  ⟨h.os.trans hb.os, h.tape.trans hb.tape, h.output.trans hb.output, Nat.le_trans hb.size h.size, fun k hk => (h.block k (Nat.lt_of_lt_of_le hk h1) (by omega)).trans (hb.block k hk)⟩
theorem But.pre {w0 w W : World} {g : Nat} (h : But w g W) (hb : Below w0.heap.size w0 w) : But w0 g W :=
  ⟨h.os.trans hb.os, h.tape.trans hb.tape, h.output.trans hb.output, Nat.le_trans hb.size h.size, fun k hk hg => (h.block k (Nat.lt_of_lt_of_le hk hb.size) hg).trans (hb.block k hk)⟩
theorem But.R {w W : World} {g base e : Nat} {α : Type} {d : Kd α} {v : Value} {xs : List α} (h : But w g W) {ok : Nat → Prop} (hr : d.R e w base (fun k => ok k ∧ k ≠ g) v xs) : d.R e W base (fun k => ok k ∧ k ≠ g) v xs :=
  Kd.R_step hr fun k hk hlt => h.block k hlt hk.2
/-- The look-up in later worlds: the slice that a text has, and where it lies. -/
theorem Groups.look {P : Program} {k t e : TypeId} {W : World} {b base m : Nat} {ok : Nat → Prop} {G : List UInt8 → List (List Int)} (h : Groups P k W b base m ok G) (hk : P.underlying k = some .string) (ht : P.underlying t = some (.map k e)) (hz : ∀ W, (zeroValue e).run P W = .ok nilV W)
    {g : Nat} (hgb : g ≠ b) (hgo : ¬ ok g) (hgf : g < base ∨ W.heap.size ≤ g) (s : ByteArray) (hs : s.size ≤ Go.maxLen) :
    ∃ A c, (∀ W1, But W g W1 → (Instr.lookup t (.map (some b)) (.string s) false).run P W1 = .ok (.slice A (G s.data.toList).length c) W1) ∧ (G s.data.toList).length ≤ c ∧ Kd.F KL W (fun q => q ≠ g) A (G s.data.toList).length (G s.data.toList) := by
  obtain ⟨f, fam, h1, h2, h3, h4, h5, h6⟩ := h
  obtain ⟨A, c, e, hl, hC⟩ := Kd.N_reads (h4 s.data.toList)
  refine ⟨A, c, fun W1 hb => ?_, hl, ?_⟩
  · have hM : MapV P k W1 b f m := h1.kept (row := some g) ⟨hb.os, hb.tape, hb.output, hb.size, fun k hk hne => hb.block k hk (fun e => hne (by rw [e]))⟩ (fun e => hgb (Option.some.inj e).symm)
    rw [hM.lookup hk ht (hz W1) s hs, e]
  · have h7 := h4 s.data.toList
    rw [e] at h7
    refine Kd.F_mono (Kd.N_F h7) fun q hq => ?_
    rintro rfl
    rcases hq with hq | hq
    · exact hgo hq
    · have := h5 _ q hq
      omega

/-- Four cells, and all that there was. -/
theorem S4.step {w1 W W1 : World} {p q r s : Addr} {a b c d : Value} (h : W.cell? p = some a ∧ W.cell? q = some b ∧ W.cell? r = some c ∧ W.cell? s = some d ∧ Below w1.heap.size w1 W) (hb : Below W.heap.size W W1) :
    W1.cell? p = some a ∧ W1.cell? q = some b ∧ W1.cell? r = some c ∧ W1.cell? s = some d ∧ Below w1.heap.size w1 W1 :=
  ⟨(hb.cell (World.block_lt_of_cell? W _ h.1)).trans h.1, (hb.cell (World.block_lt_of_cell? W _ h.2.1)).trans h.2.1, (hb.cell (World.block_lt_of_cell? W _ h.2.2.1)).trans h.2.2.1, (hb.cell (World.block_lt_of_cell? W _ h.2.2.2.1)).trans h.2.2.2.1, below_then h.2.2.2.2 h.2.2.2.2.size hb⟩
theorem S4.start {w1 : World} {p q r s : Addr} {a b c d : Value} (h0 : w1.cell? p = some a) (h1 : w1.cell? q = some b) (h2 : w1.cell? r = some c) (h3 : w1.cell? s = some d) :
    w1.cell? p = some a ∧ w1.cell? q = some b ∧ w1.cell? r = some c ∧ w1.cell? s = some d ∧ Below w1.heap.size w1 w1 := ⟨h0, h1, h2, h3, Below.refl _ _⟩
theorem S4.of {w1 W : World} {p q r s : Addr} {a b c d : Value} (h : W.cell? p = some a ∧ W.cell? q = some b ∧ W.cell? r = some c ∧ W.cell? s = some d ∧ Below w1.heap.size w1 W) : Below w1.heap.size w1 W := h.2.2.2.2
theorem cell_set_ne {W : World} {p : Addr} {a : Value} {g : Nat} (h : W.cell? p = some a) (hne : p.block ≠ g) (i : Nat) (u : Value) : (W.setCell ⟨g, i, none⟩ u).cell? p = some a :=
  (World.cell?_of_block (Below.heap_setCell W ⟨g, i, none⟩ u p.block hne)).trans h
theorem S4.set {w1 W : World} {p q r s : Addr} {a b c d : Value} (h : W.cell? p = some a ∧ W.cell? q = some b ∧ W.cell? r = some c ∧ W.cell? s = some d ∧ Below w1.heap.size w1 W) {g : Nat} (hg : w1.heap.size ≤ g)
    (hp : p.block < w1.heap.size ∧ q.block < w1.heap.size ∧ r.block < w1.heap.size ∧ s.block < w1.heap.size) (i : Nat) (u : Value) :
    (W.setCell ⟨g, i, none⟩ u).cell? p = some a ∧ (W.setCell ⟨g, i, none⟩ u).cell? q = some b ∧ (W.setCell ⟨g, i, none⟩ u).cell? r = some c ∧ (W.setCell ⟨g, i, none⟩ u).cell? s = some d ∧ Below w1.heap.size w1 (W.setCell ⟨g, i, none⟩ u) :=
  ⟨cell_set_ne h.1 (by omega) _ _, cell_set_ne h.2.1 (by omega) _ _, cell_set_ne h.2.2.1 (by omega) _ _, cell_set_ne h.2.2.2.1 (by omega) _ _, h.2.2.2.2.setCell (p := ⟨g, i, none⟩) hg u⟩

theorem UnInv.but {w w1 W : World} {a0 a1 b0 b1 : Value} {g : Nat} (h : UnInv w a0 a1 b0 b1 w1) (hb : But w1 g W) (hg : w.heap.size + 1 + 1 < g) : UnInv w a0 a1 b0 b1 W := by
  obtain ⟨x, y, hC⟩ := h.C
  exact ⟨hb.below h.bel h.bel.size (by omega), (hb.block _ (Array.getElem?_eq_some_iff.1 h.A).1 (by omega)).trans h.A, (hb.block _ (Array.getElem?_eq_some_iff.1 h.B).1 (by omega)).trans h.B, x, y, (hb.block _ (Array.getElem?_eq_some_iff.1 hC).1 (by omega)).trans hC⟩
/-- Between two rounds: the answer's box in block g, its rows behind all that there was. -/
structure RowsOut (w4 : World) (g : Nat) (s0 s1 : Value) (xs : List (List Int)) (W : World) : Prop where
  but : But w4 g W
  blk : W.heap[g]? = some (.cells #[s0, s1] 39 (0, 0))
  rows : Kd.N KL 25 W w4.heap.size (fun k => w4.heap.size ≤ k ∧ k ≠ g) s1 xs
theorem RowsOut.new {w4 : World} (s0 : Value) : RowsOut w4 w4.heap.size s0 (.slice none 0 0) [] (w4.alloc (.cells #[s0, .slice none 0 0] 39)) :=
  ⟨But.of _ (below_alloc (Below.refl _ _) _), heap_alloc_new w4 _, Kd.N_nil _ _ _ _ _⟩
theorem RowsOut.old {w4 : World} {g : Nat} (hk : w4.heap[g]? = some (.cells #[.slice none 0 0, .slice none 0 0] 39 (0, 0))) (s0 : Value) : RowsOut w4 g s0 (.slice none 0 0) [] ((w4.setCell ⟨g, 0, none⟩ s0).setCell ⟨g, 1, none⟩ (.slice none 0 0)) :=
  ⟨((But.of g (Below.refl _ _)).set 0 _).set 1 _, blk2_s1 (blk2_s0 hk _) _, Kd.N_nil _ _ _ _ _⟩
theorem RowsOut.step {w4 W W1 : World} {g : Nat} {s0 s1 : Value} {xs : List (List Int)} (h : RowsOut w4 g s0 s1 xs W) (hb : Below W.heap.size W W1) : RowsOut w4 g s0 s1 xs W1 :=
  ⟨h.but.step hb, (hb.block _ (Array.getElem?_eq_some_iff.1 h.blk).1).trans h.blk, Kd.N_below h.rows hb⟩
theorem RowsOut.at1 {w4 W W4 w1 : World} {g : Nat} {s0 s1 : Value} {xs : List (List Int)} (h : RowsOut w4 g s0 s1 xs W) (hb : Below W.heap.size W W4) (hg : W4.grownBy w1 s1.ownBlock) : w1.heap[g]? = some (.cells #[s0, s1] 39 (0, 0)) := by
  have hgl := (Array.getElem?_eq_some_iff.1 h.blk).1
  exact (hg.block g (Nat.lt_of_lt_of_le hgl hb.size) (Kd.N_away h.rows (fun k hk => hk.2))).trans ((hb.block g hgl).trans h.blk)
theorem RowsOut.push {w4 W W4 w1 : World} {g : Nat} {s0 s1 v1 : Value} {xs ys : List (List Int)} (h : RowsOut w4 g s0 s1 xs W) (hb : Below W.heap.size W W4) (hg : W4.grownBy w1 s1.ownBlock)
    (hN : Kd.N KL 25 w1 w4.heap.size (fun k => w4.heap.size ≤ k ∧ k ≠ g) v1 ys) : RowsOut w4 g s0 v1 ys (w1.setCell ⟨g, 1, none⟩ v1) :=
  ⟨((h.but.step hb).grown hg (fun k e => Kd.N_base h.rows k e)).set 1 v1, blk2_s1 (h.at1 hb hg) v1, Kd.N_far hN (p := ⟨g, 1, none⟩) (fun k hk => hk.2) v1⟩

set_option maxHeartbeats 4000000 in
set_option maxRecDepth 100000 in
theorem semi_any (A0 : Option Addr) (c0 : Nat) (sa : List Int) (A1 : Option Addr) (c1 : Nat) (La : List (List Int)) (A2 : Option Addr) (c2 : Nat) (sb : List Int) (A3 : Option Addr) (c3 : Nat) (Lb : List (List Int)) (w : World)
    (hr0 : Kd.C KI w A0 sa.length sa) (hc0 : sa.length ≤ c0) (hr1 : Kd.C KL w A1 La.length La) (hr2 : Kd.C KI w A2 sb.length sb) (hc2 : sb.length ≤ c2) (hr3 : Kd.C KL w A3 Lb.length Lb) (hm : sa.length ≤ 400000000) (hm' : sb.length ≤ 400000000) (hm1 : La.length ≤ 400000000) (hm2 : Lb.length ≤ 400000000) (hx1 : ∀ x ∈ La, x.length < 17592186044416) (hia : InR La) (hib : InR Lb) (htab : Tab w) :
    Calls Tryz.prog 19 #[.agg #[.slice A0 sa.length c0, .slice A1 La.length c1], .agg #[.slice A2 sb.length c2, .slice A3 Lb.length c3]] w fun e w' => ∃ u, e = .returned u ∧ RelM w' w.heap.size u (sa, semiCode sa La sb Lb) ∧ Below w.heap.size w w' := by
  have HR := Aside0.mk (And.intro hr0 (And.intro hr1 (And.intro hr2 hr3)))
  have HX := Aside0.mk (And.intro hx1 (And.intro hia hib))
  have HT := Aside0.mk htab
  clear hr0 hr1 hr2 hr3 hx1 hia hib htab
  obtain ⟨W0, hW0⟩ : ∃ W0, ((w.alloc (.cells #[.slice A0 sa.length c0, .slice A1 La.length c1] 39)).alloc (.cells #[.slice A2 sb.length c2, .slice A3 Lb.length c3] 39)).alloc (.cells #[.slice none 0 0, .slice none 0 0] 39) = W0 := ⟨_, rfl⟩
  have hI0 : UnInv w (.slice A0 sa.length c0) (.slice A1 La.length c1) (.slice A2 sb.length c2) (.slice A3 Lb.length c3) W0 := by rw [← hW0]; exact UnInv.start _ _ _ _ _ _ _
  have HI0 := Aside0.mk hI0
  have q0 := blk2_c0 hI0.A
  have q1 := blk2_c0 hI0.B
  clear hI0
  go_enter Tryz.func19, Tryz.ntmps19
  go_wp2_with (go_at_call 33; refine (tuple_Meet_any A0 c0 sa A2 c2 sb W0 (Kd.C_below HR.out.1 HI0.out.bel) hc0 (Kd.C_below HR.out.2.2.1 HI0.out.bel) hc2 (by omega)).mono ?_; rintro e w1 ⟨v1, rfl, hv1, hb1⟩; obtain ⟨Ab, cb, rfl, _, hcb⟩ := Kd.R_reads hv1; have HJ1 := Aside0.mk (And.intro (HI0.out.step hb1) hcb); clear hv1 hb1 hcb)
  clear hW0 q0 q1
  have hbl : (merge false true false sa sb).length ≤ 800000000 := Nat.le_trans (merge_len _ _ _ sa sb) (by omega)
  obtain ⟨both, hboth⟩ : ∃ both, merge false true false sa sb = both := ⟨_, rfl⟩
  rw [hboth] at HJ1 hbl ⊢
  have HBO := Aside0.mk hboth
  clear hboth
  obtain ⟨r0, r1, r2, r3, _⟩ := HJ1.out.1.all
  have hS := S4.start r0 r1 r2 r3
  have HSD := Aside0.mk (S4.step hS (below_drew (Below.refl _ _)))
  have hlt4 : w.heap.size < w1.heap.size ∧ w.heap.size < w1.heap.size ∧ w.heap.size + 1 < w1.heap.size ∧ w.heap.size + 1 < w1.heap.size := ⟨(Array.getElem?_eq_some_iff.1 HJ1.out.1.A).1, (Array.getElem?_eq_some_iff.1 HJ1.out.1.A).1, (Array.getElem?_eq_some_iff.1 HJ1.out.1.B).1, (Array.getElem?_eq_some_iff.1 HJ1.out.1.B).1⟩
  have HLT4 := Aside0.mk hlt4
  clear hlt4
  go_region_held3 (fun W => W.cell? ⟨w.heap.size, 0, none⟩ = some (.slice A0 sa.length c0) ∧ W.cell? ⟨w.heap.size, 1, none⟩ = some (.slice A1 La.length c1) ∧ W.cell? ⟨w.heap.size + 1, 0, none⟩ = some (.slice A2 sb.length c2) ∧ W.cell? ⟨w.heap.size + 1, 1, none⟩ = some (.slice A3 Lb.length c3) ∧ Below w1.heap.size w1 W)
      (first | with_reducible exact HS4A.out | with_reducible exact HS3A.out | with_reducible exact HS2A.out | with_reducible exact S4.step HS4A.out (below_alloc (Below.refl _ _) _) | with_reducible exact S4.step (by assumption) (below_alloc (Below.refl _ _) _) | with_reducible exact S4.step (by assumption) (below_drew (Below.refl _ _)) | with_reducible exact S4.set (S4.set HS4A.out (by first | assumption | exact Nat.le_refl _) HLT4.out _ _) (by first | assumption | exact Nat.le_refl _) HLT4.out _ _)
      (first
        | (have hgd := HS3A; clear hgd; go_at_call 30; refine (slices_Clone_any A0 c0 sa _ (Kd.C_below (Kd.C_below HR.out.1 HJ1.out.1.bel) (S4.of (by assumption))) (by omega)).mono ?_; rintro e w4 ⟨v4, rfl, hv4, hb4⟩; have hS4 := S4.step (by assumption) hb4; have HS4A := Aside0.mk hS4; obtain ⟨A7, c7, rfl, _, _⟩ := Kd.R_reads hv4; have HV4 := Aside0.mk (And.intro hv4 hb4); (first | (have hbk := (hb4.block _ (Array.getElem?_eq_some_iff.1 hbk).1).trans hbk) | (have hbk := (hb4.block w3.heap.size (by simp)).trans (heap_alloc_new w3 (.cells #[.slice none 0 0, .slice none 0 0] 39))) | skip); try (have p0 := blk2_c0 hbk; have p1 := blk_fr (i := 0) hbk; have hs0 := blk2_s0 hbk (.slice A7 sa.length c7); have p2 := blk2_c1 hs0; have p3 := blk_fr (i := 1) hs0; have HBK := Aside0.mk hbk; clear hs0 hbk); clear hv4 hS4)
        | (have hgd := HS2A; clear hgd; go_at_call 35; refine (index_any A2 c2 sb A3 c3 Lb Ab cb both _ (Kd.C_below (Kd.C_below HR.out.2.2.1 HJ1.out.1.bel) (S4.of (by assumption))) (fun q => q < w.heap.size) (Kd.F_below (Kd.F_below (Kd.C_F heap_KL HR.out.2.2.2) HJ1.out.1.bel) (S4.of (by assumption))) (fun q hq => Nat.lt_of_lt_of_le hq (Nat.le_trans HJ1.out.1.bel.size (S4.of (by assumption)).size)) (Kd.C_below HJ1.out.2 (S4.of (by assumption))) (by omega) (by omega) HX.out.2.2 ((HT.out.step HJ1.out.1.bel).step (S4.of (by assumption)))).mono ?_; rintro e w3 ⟨gb, gbase, rfl, hG, hb3⟩; have hS3 := S4.step (by assumption) hb3; have HS3A := Aside0.mk hS3; have HV3 := Aside0.mk (And.intro hG hb3); have hg3 : w1.heap.size ≤ w3.heap.size := hS3.2.2.2.2.size; (first | (have hbk := (hb3.block _ (Array.getElem?_eq_some_iff.1 hbk).1).trans hbk) | (have hbk := (hb3.block w2.heap.size (by simp)).trans (heap_alloc_new w2 (.cells #[.slice none 0 0, .slice none 0 0] 39))) | skip); clear hG hS3)
        | (go_at_call 34; refine (places_any A0 c0 sa Ab cb both _ (Kd.C_below (Kd.C_below HR.out.1 HJ1.out.1.bel) (S4.of (by assumption))) (Kd.C_below HJ1.out.2 (S4.of (by assumption))) (by omega)).mono ?_; rintro e w2 ⟨v2, rfl, hv2, hb2⟩; have hS2 := S4.step (by assumption) hb2; have HS2A := Aside0.mk hS2; obtain ⟨A6, c6, rfl, _, hr6⟩ := Kd.R_reads hv2; have HV2 := Aside0.mk (And.intro hv2 hb2); have hg2 : w1.heap.size ≤ w2.heap.size := hS2.2.2.2.2.size; try (have HW12 := Aside0.mk (show w1.heap.size < w2.heap.size from Nat.lt_of_lt_of_le (by first | (simp; done) | fail) hb2.size)); try (have hbk := (hb2.block w1.heap.size (by simp)).trans (heap_alloc_new w1.drew (.cells #[.slice none 0 0, .slice none 0 0] 39))); clear hv2 hr6 hS2))
  all_goals
    have hb23 : Below w2.heap.size w2 w3 := by first | exact HV3.out.2 | exact below_then (below_alloc (Below.refl _ _) _) (by simp) HV3.out.2
    have hb34 : Below w3.heap.size w3 w4 := by first | exact HV4.out.2 | exact below_then (below_alloc (Below.refl _ _) _) (by simp) HV4.out.2
    have hb24 := below_then hb23 hb23.size hb34
    have hlo : w.heap.size + 1 + 1 < w1.heap.size := by
      obtain ⟨x, y, hC⟩ := HJ1.out.1.C
      exact (Array.getElem?_eq_some_iff.1 hC).1
    have ha4 : Kd.R KI 3 w4 w.heap.size AnyB (.slice A6 (both.map (idx sa)).length c6) (both.map (idx sa)) := Kd.R_lower (Kd.R_below HV2.out.1 hb24) (Nat.le_trans (show w.heap.size ≤ w1.heap.size by omega) (by first | exact Nat.le_refl _ | (simp)))
    have hr4 : Kd.R KI 3 w4 w.heap.size AnyB (.slice A7 sa.length c7) sa := Kd.R_lower HV4.out.1 (by first | omega | (simp; omega))
    have hgb3 := HV3.out.1.1.lt3
    have hgbb := HV3.out.1.2
    first
    | (have HO : Aside0 (RowsOut w4 w3.heap.size (.slice A7 sa.length c7) (.slice none 0 0) [] ((w4.setCell ⟨w3.heap.size, 0, none⟩ (.slice A7 sa.length c7)).setCell ⟨w3.heap.size, 1, none⟩ (.slice none 0 0))) := ⟨RowsOut.old HBK.out (.slice A7 sa.length c7)⟩; have HG := Aside0.mk (And.intro (show w.heap.size + 1 + 1 < w3.heap.size from (by have := hb34.size; omega)) (fun (s : ByteArray) (hs : s.size ≤ Go.maxLen) => Groups.look (t := 53) (e := 24) HV3.out.1.1 Tryz.underlying9 Tryz.underlying53 zeroRows (g := w3.heap.size) (by have := hgb3; omega) (by show ¬ w3.heap.size < w.heap.size; omega) (.inr (Nat.le_refl _)) s hs)); have HR4 := Aside0.mk (Kd.R_types hr4 HBK.out (int_ty _ (by decide))); have HA4 := Aside0.mk (Kd.R_types ha4 HBK.out (int_ty _ (by decide))); generalize (w4.setCell ⟨w3.heap.size, 0, none⟩ (.slice A7 sa.length c7)).setCell ⟨w3.heap.size, 1, none⟩ (.slice none 0 0) = W5 at HO ⊢; generalize hg5 : w3.heap.size = g at HO HG HR4 HA4 HBK p0 p1 p2 p3 ⊢; clear p0 p1 p2 p3 HBK)
    | (have HO : Aside0 (RowsOut w4 w2.heap.size (.slice A7 sa.length c7) (.slice none 0 0) [] ((w4.setCell ⟨w2.heap.size, 0, none⟩ (.slice A7 sa.length c7)).setCell ⟨w2.heap.size, 1, none⟩ (.slice none 0 0))) := ⟨RowsOut.old HBK.out (.slice A7 sa.length c7)⟩; have HG := Aside0.mk (And.intro (show w.heap.size + 1 + 1 < w2.heap.size from (by have := hb34.size; omega)) (fun (s : ByteArray) (hs : s.size ≤ Go.maxLen) => Groups.look (t := 53) (e := 24) HV3.out.1.1 Tryz.underlying9 Tryz.underlying53 zeroRows (g := w2.heap.size) (by first | omega | (simp at hgbb; omega)) (by show ¬ w2.heap.size < w.heap.size; omega) (.inl (by have := HV3.out.1.1.lt2; first | omega | (simp at hgbb; omega))) s hs)); have HR4 := Aside0.mk (Kd.R_types hr4 HBK.out (int_ty _ (by decide))); have HA4 := Aside0.mk (Kd.R_types ha4 HBK.out (int_ty _ (by decide))); generalize (w4.setCell ⟨w2.heap.size, 0, none⟩ (.slice A7 sa.length c7)).setCell ⟨w2.heap.size, 1, none⟩ (.slice none 0 0) = W5 at HO ⊢; generalize hg5 : w2.heap.size = g at HO HG HR4 HA4 HBK p0 p1 p2 p3 ⊢; clear p0 p1 p2 p3 HBK)
    | (have HO : Aside0 (RowsOut w4 w1.heap.size (.slice A7 sa.length c7) (.slice none 0 0) [] ((w4.setCell ⟨w1.heap.size, 0, none⟩ (.slice A7 sa.length c7)).setCell ⟨w1.heap.size, 1, none⟩ (.slice none 0 0))) := ⟨RowsOut.old HBK.out (.slice A7 sa.length c7)⟩; have HG := Aside0.mk (And.intro (show w.heap.size + 1 + 1 < w1.heap.size from (by have := hb34.size; omega)) (fun (s : ByteArray) (hs : s.size ≤ Go.maxLen) => Groups.look (t := 53) (e := 24) HV3.out.1.1 Tryz.underlying9 Tryz.underlying53 zeroRows (g := w1.heap.size) (by have := HW12.out; first | omega | (simp at hgbb; omega)) (by show ¬ w1.heap.size < w.heap.size; omega) (.inl (by have := HW12.out; have := HV3.out.1.1.lt2; first | omega | (simp at hgbb; omega))) s hs)); have HR4 := Aside0.mk (Kd.R_types hr4 HBK.out (int_ty _ (by decide))); have HA4 := Aside0.mk (Kd.R_types ha4 HBK.out (int_ty _ (by decide))); generalize (w4.setCell ⟨w1.heap.size, 0, none⟩ (.slice A7 sa.length c7)).setCell ⟨w1.heap.size, 1, none⟩ (.slice none 0 0) = W5 at HO ⊢; generalize hg5 : w1.heap.size = g at HO HG HR4 HA4 HBK p0 p1 p2 p3 ⊢; clear p0 p1 p2 p3 HBK)
    | (have HO := Aside0.mk (RowsOut.new (w4 := w4) (.slice A7 sa.length c7)); have HG := Aside0.mk (And.intro (show w.heap.size + 1 + 1 < w4.heap.size from (by have := hb34.size; omega)) (fun (s : ByteArray) (hs : s.size ≤ Go.maxLen) => Groups.look (t := 53) (e := 24) HV3.out.1.1 Tryz.underlying9 Tryz.underlying53 zeroRows (g := w4.heap.size) (by have := hb34.size; omega) (by have := hb34.size; show ¬ w4.heap.size < w.heap.size; omega) (.inr hb34.size) s hs)); have HR4 := Aside0.mk (show Kd.R KI 3 w4 w.heap.size (fun k => True ∧ k ≠ w4.heap.size) (.slice A7 sa.length c7) sa from Kd.R_mono (Kd.R_bound hr4) (fun k hk => ⟨trivial, by have := hk.2.2.1; omega⟩)); have HA4 := Aside0.mk (show Kd.R KI 3 w4 w.heap.size (fun k => True ∧ k ≠ w4.heap.size) (.slice A6 (both.map (idx sa)).length c6) (both.map (idx sa)) from Kd.R_mono (Kd.R_bound ha4) (fun k hk => ⟨trivial, by have := hk.2.2.1; omega⟩)); generalize hW5 : w4.alloc (.cells #[.slice A7 sa.length c7, .slice none 0 0] 39) = W5 at HO ⊢; clear hW5; generalize hg5 : w4.heap.size = g at HO HG HR4 HA4 ⊢)
    have HB14 := Aside0.mk (S4.of HS4A.out)
    have HB4 := Aside0.mk (below_then HJ1.out.1.bel HJ1.out.1.bel.size (S4.of HS4A.out))
    have HB34 := Aside0.mk hb34
    have hatl : (both.map (idx sa)).length = both.length := List.length_map _
    obtain ⟨ats, hats⟩ : ∃ ats, ats = both.map (idx sa) := ⟨_, rfl⟩
    rw [← hats] at HA4 hatl
    rw [hatl] at HA4
    have HAT := Aside0.mk hats
    obtain ⟨K, hK⟩ : ∃ K : List Int → Bool, K = fun t => decide (0 < (groupOf sb Lb both (keyText (pick t ats))).length) := ⟨_, rfl⟩
    have hsc : semiCode sa La sb Lb = La.filter K := by
      have hmb : meetS sa sb = both := HBO.out
      unfold semiCode
      rw [hK, hmb, hats]
    have HKK := Aside0.mk (And.intro hK hsc)
    clear hK hsc
    have hgl := HG.out.1
    have q0 := blk2_c1 (HJ1.out.1.but (HO.out.but.pre HB14.out) hgl).A
    clear hats hb23 hb34 hb24 ha4 hr4 hgb3 hgbb hg5 HS2A HS3A HS4A HV2 HV3 HV4 hS HSD r0 r1 r2 r3
    go_wp2
    clear q0
    go_loopw [30] (fun i W => ∃ (k : Nat) (s1 : Value), k ≤ La.length ∧ i = .int .i64 k ∧ Aside0 (RowsOut w4 g (.slice A7 sa.length c7) s1 ((La.take k).filter K) W)) (fun i _ => La.length - (intOf i).toNat)
    case atStart => exact ⟨0, _, Nat.zero_le _, rfl, ⟨by simpa using HO.out⟩⟩
    case round =>
      clear HO
      obtain ⟨k, s1, hk, rfl, HO⟩ := hrel
      have HUN := Aside0.mk (HJ1.out.1.but (HO.out.but.pre HB14.out) hgl)
      by_cases hlt : k < La.length
      · obtain ⟨ad, Bx, cx, rfl, hx, hlx, hcx⟩ := at_row HR.out.2.1 HUN.out.bel k hlt
        have hkl : (k : Int) < (La.length : Int) := by omega
        have hxl : (La.getD k []).length < 17592186044416 := HX.out.1 _ (by rw [getD_get _ _ hlt]; exact List.getElem_mem hlt)
        have hxin : InR1 (La.getD k []) := HX.out.2.1 _ (by rw [getD_get _ _ hlt]; exact List.getElem_mem hlt)
        have hst := filter_take_in K La k hlt
        have hso := filter_take_out K La k hlt
        obtain ⟨x, hxe⟩ : ∃ x, x = La.getD k [] := ⟨_, rfl⟩
        rw [← hxe] at hx hlx hcx hxl hxin hst hso
        have hkin : InR1 (pick x ats) := fun y hy => hxin y (pick_mem hy)
        have hkl2 : (pick x ats).length ≤ 1000000000 := Nat.le_trans (pick_len x ats) (by omega)
        obtain ⟨n, hn⟩ : ∃ n, (groupOf sb Lb both (keyText (pick x ats))).length = n := ⟨_, rfl⟩
        have hkx : K x = decide (0 < n) := by rw [HKK.out.1, ← hn]
        rw [hkx] at hst hso
        have HXX := Aside0.mk (And.intro hcx (And.intro hkin (And.intro hn hlx)))
        have HST := Aside0.mk (And.intro hst (And.intro hso hxe))
        clear hcx hkin hn hlx hst hso hxe hxin hkx
        have hca := (Kd.R_reads' (HO.out.but.R HA4.out)).2.2
        have hpk := tuple_Pick_any Bx cx x A6 c6 ats wr HXX.out.1 hca (by omega)
        rw [hatl] at hpk
        clear hca
        by_cases hp : 0 < n
        · have hpi : (0 : Int) < (n : Int) := by omega
          have hpd : decide ((0 : Int) < (n : Int)) = true := decide_eq_true hpi
          go_wp2_with (first
            | (go_at_call 37; refine hpk.mono ?_; rintro e w6 ⟨v6, rfl, hv6, hb6⟩; obtain ⟨A8, c8, rfl, _, hv8⟩ := Kd.R_reads hv6; have HP := Aside0.mk (And.intro hv8 hb6); clear hv6 hv8 hb6)
            | (go_at_call 36; refine (key_is HP.out.1 hkl2 HXX.out.2.1 (HT.out.step (below_then HUN.out.bel HUN.out.bel.size HP.out.2))).mono ?_; rintro e w7 ⟨s, rfl, hs, hb7⟩; have HK := Aside0.mk (below_then HP.out.2 HP.out.2.size hb7); obtain ⟨Ag, cg, hrun0, _, _⟩ := HG.out.2 s hs.2; have hrun := hrun0 w7 ((HO.out.but.pre HB34.out).step HK.out); rw [hs.1, HXX.out.2.2.1] at hrun; clear hs hb7 hrun0))
          have hpn : decide (0 < n) = true := decide_eq_true hp
          have HO7 := Aside0.mk (HO.out.step HK.out)
          have hc7 := Kd.C_below HXX.out.1 HK.out
          have HC7 := Aside0.mk hc7
          clear hrun hc7
          have qa := blk2_c1 HO7.out.blk
          have hgl7 := (Array.getElem?_eq_some_iff.1 HO7.out.blk).1
          have HW2 := Aside0.mk HO7.out.but.size
          have HOK := Aside0.mk (show ∀ k, w7.heap.size ≤ k → (w4.heap.size ≤ k ∧ k ≠ g) ∧ some k ≠ s1.ownBlock from fun k hk => ⟨⟨Nat.le_trans HW2.out hk, by omega⟩, fun e => by have := Kd.N_lt HO7.out.rows k e.symm; omega⟩)
          have HFL := Aside0.mk (show ((La.take k).filter K).length ≤ 1000000000 from Nat.le_trans (List.length_filter_le _ _) (by simp; omega))
          obtain ⟨FL, hFL⟩ : ∃ FL, FL = (La.take k).filter K := ⟨_, rfl⟩
          rw [← hFL] at HO7 HFL
          have HFE := Aside0.mk hFL
          clear hFL
          go_wp2_with fail
          go_region_law (first
            | (go_simp; go_at_call 30; refine (slices_Clone_any Bx cx x _ (Kd.C_below HC7.out (below_drew (Below.refl _ _))) hxl).mono ?_; rintro e w8 ⟨v8, rfl, hv8, hb8⟩; obtain ⟨A9, c9, rfl, _, _⟩ := Kd.R_reads hv8; have HV8 := Aside0.mk (And.intro hv8 hb8); have hbk8 := (hb8.block g hgl7).trans HO7.out.blk; have qb := blk2_c1 hbk8; have qc := blk2_c1 ((Below.heap_alloc w8 (.cells #[.slice A9 x.length c9] 25) g (Array.getElem?_eq_some_iff.1 hbk8).1).trans hbk8); have HBK8 := Aside0.mk hbk8; have HB8 := Aside0.mk ((below_drew (Below.refl w7.heap.size w7)).trans hb8); clear hv8 hb8 hbk8) | ((refine Kd.N_append_step KL (w0 := w8) w4.heap.size (by rfl) (.tmp 43) (.tmp 46) 24 25 (.slice none 0 0) 24 rfl Tryz.underlying24 infoInts rfl (by decide) (by omega) s1 FL x [.slice A9 x.length c9] (fun k => w4.heap.size ≤ k ∧ k ≠ g) (fun k => w7.heap.size ≤ k) rfl rfl (Kd.FK_of_M (base := w7.drew.heap.size) ⟨_, rfl, Kd.R_mono (Kd.R_bound HV8.out.1) (fun k hk => hk.2.1)⟩) (fun k hk => HOK.out k hk) (fun k hk => (HOK.out k (Nat.le_trans HB8.out.size hk)).1) (Kd.N_below HO7.out.rows HB8.out) (Below.refl _ _) (Nat.le_trans HW2.out HB8.out.size) (by have := HFL.out; omega) ?_); intro v9 w9 hN hB hgr hat; obtain ⟨A10, c10, rfl⟩ := Kd.N_slice hN; have hbk9 := HO7.out.at1 HB8.out hgr; have qd := blk2_c1 hbk9; have qe := blk_fr (i := 1) hbk9; have HP9 := Aside0.mk (HO7.out.push HB8.out hgr hN); clear hN hB hgr hat hbk9))
          all_goals
            go_wp2_with fail
            go_roundw
            case rel => exact ⟨k + 1, _, by omega, by go_num, ⟨by rw [HST.out.1 hpn, ← HFE.out]; have h := HP9.out; rw [List.length_append] at h; exact h⟩⟩
            case measure => simp [intOf]; omega
        · have hpi : ¬ (0 : Int) < (n : Int) := by omega
          have hpd : decide ((0 : Int) < (n : Int)) = false := decide_eq_false hpi
          have hpn : decide (0 < n) = false := decide_eq_false hp
          go_wp2_with (first
            | (go_at_call 37; refine hpk.mono ?_; rintro e w6 ⟨v6, rfl, hv6, hb6⟩; obtain ⟨A8, c8, rfl, _, hv8⟩ := Kd.R_reads hv6; have HP := Aside0.mk (And.intro hv8 hb6); clear hv6 hv8 hb6)
            | (go_at_call 36; refine (key_is HP.out.1 hkl2 HXX.out.2.1 (HT.out.step (below_then HUN.out.bel HUN.out.bel.size HP.out.2))).mono ?_; rintro e w7 ⟨s, rfl, hs, hb7⟩; have HK := Aside0.mk (below_then HP.out.2 HP.out.2.size hb7); obtain ⟨Ag, cg, hrun0, _, _⟩ := HG.out.2 s hs.2; have hrun := hrun0 w7 ((HO.out.but.pre HB34.out).step HK.out); rw [hs.1, HXX.out.2.2.1] at hrun; clear hs hb7 hrun0))
          go_roundw
          case measure => simp [intOf]; omega
          case rel => exact ⟨k + 1, s1, by omega, by go_num, ⟨by rw [HST.out.2.1 hpn]; exact HO.out.step HK.out⟩⟩
      · have hke : k = La.length := by omega
        subst hke
        rw [List.take_length] at HO
        obtain ⟨A10, c10, rfl⟩ := Kd.N_slice HO.out.rows
        obtain ⟨x0, y0, hC⟩ := HUN.out.C
        have qa := blk2_c0 HO.out.blk
        have qb := blk2_c1 HO.out.blk
        have p0 := blk2_c0 hC
        have p1 := blk_fr (i := 0) hC
        have hs0 := blk2_s0 hC (.slice A7 sa.length c7)
        have p2 := blk2_c1 hs0
        have p3 := blk_fr (i := 1) hs0
        have hs1 := blk2_s1 hs0 (.slice A10 (La.filter K).length c10)
        have q4 := blk2_c0 hs1
        have q5 := blk2_c1 hs1
        have HS0 := Aside0.mk (And.intro hC hs0)
        have HR5 := Aside0.mk (HO.out.but.R HR4.out)
        clear hs0 hs1 hC
        go_wp2
        refine bodyPost_ret (v := .agg #[.slice A7 sa.length c7, .slice A10 (La.filter K).length c10]) (by simp [results, Tryz.results19, go_sem, q4, q5]) rfl ?_
        have hA := Kd.R_set (Kd.R_set HR5.out HS0.out.1 (int_ty _ (by decide)) 0 (.slice A7 sa.length c7)) HS0.out.2 (int_ty _ (by decide)) 1 (.slice A10 (La.filter K).length c10)
        have hB := Kd.N_far (Kd.N_far HO.out.rows (p := ⟨w.heap.size + 1 + 1, 0, none⟩) (fun k hk => by have := hk.1; have := HB4.out.size; have := HB14.out.size; show k ≠ w.heap.size + 1 + 1; omega) (.slice A7 sa.length c7)) (p := ⟨w.heap.size + 1 + 1, 1, none⟩) (fun k hk => by have := hk.1; have := HB14.out.size; show k ≠ w.heap.size + 1 + 1; omega) (.slice A10 (La.filter K).length c10)
        rw [HKK.out.2]
        refine ⟨_, rfl, ⟨_, _, rfl, Kd.R_mono (Kd.R_bound hA) (fun k hk => hk.2.1), Kd.N_mono (ok := fun k => w4.heap.size ≤ k ∧ k ≠ g) (ok' := fun k => w.heap.size ≤ k) (Kd.N_lower hB HB4.out.size) (fun k hk => Nat.le_trans HB4.out.size hk.1)⟩, ?_⟩
        exact (HUN.out.bel.setCell (p := ⟨w.heap.size + 1 + 1, 0, none⟩) (show w.heap.size ≤ w.heap.size + 1 + 1 by omega) _).setCell (p := ⟨w.heap.size + 1 + 1, 1, none⟩) (show w.heap.size ≤ w.heap.size + 1 + 1 by omega) _
end Go.Proofs.YtpimooejnpdlpaaGreatDoor.G
