/- rel.Union: the rows of both. slices.Concat of two. -/
import Derived.Test.YtlinhcgggfdlpaaProject
import Derived.Test.YtlinhcgggfdlpaaMake
set_option linter.unusedVariables false
set_option linter.unusedSimpArgs false
namespace Go.Proofs.Ytlinhcgggfdlpaa.G
open Go.RowKit Go.Proofs.YtlinhcgggfdlpaaW.PrintWords Go.Proofs.YtlinhcgggfdlpaaW.PrintLast Go.Proofs.YtlinhcgggfdlpaaW.PrintMore

theorem heap_KL : Kd.Heap KL := Kd.heap_slice _ (Kd.heap_int _)
theorem zero_KL (W : World) : Kd.FK KL W (fun _ => False) [] (Value.slice none 0 0).cells.toList := fun W' _ => ⟨none, 0, rfl, Nat.le_refl _, Kd.C_nil _ _⟩

set_option maxHeartbeats 2000000 in
set_option maxRecDepth 100000 in
theorem grow_any (n : Nat) (w : World) (hn : n ≤ 1000000000) :
    Calls Try.prog 68 #[.slice none 0 0, .int .i64 n] w fun e w' => ∃ v, e = .returned v ∧ Kd.N KL 22 w' w.heap.size (fun _ => True) v [] ∧ Below w.heap.size w w' := by
  have hneg : ¬ ((n : Int) < 0) := by omega
  have hnd : decide ((n : Int) < 0) = false := decide_eq_false hneg
  have hw : IntKind.i64.wrap (n : Int) = n := IntWalk.i64_in _ (by omega)
  rcases Nat.eq_zero_or_pos n with h0 | h0
  · subst h0
    go_enter Try.func68, Try.ntmps68
    go_wp2
    refine bodyPost_ret (v := .slice none 0 0) (by simp [results, Try.results68, go_sem]) rfl ?_
    exact ⟨_, rfl, Kd.N_nil _ _ _ _ _, Below.refl _ _⟩
  · have hp : (0 : Int) < (n : Int) := by omega
    go_enter Try.func68, Try.ntmps68
    go_wp2_with (at_builtin; refine Kd.N_append_zeros KL (w0 := w) w.heap.size rfl (.tmp 20) (.tmp 21) 23 3 22 (.slice none 0 0) 24 rfl Try.underlying23 Try.underlying3 infoInts rfl (by decide) (by decide) _ [] [] (n : Int) (fun _ => True) rfl rfl (zero_KL _) (fun _ _ => trivial) (Kd.N_nil _ _ _ _ _) (by omega) (Below.refl _ _) (Nat.le_refl _) (by simp; omega) ?_; intro v1 w1 hN hB hg hat; obtain ⟨gg, cap, rfl, hgb, hgl, hcl⟩ := Kd.N_form hN (by simp; omega); have HN := Aside0.mk (And.intro hN hB); clear hN hB hg hat)
    refine bodyPost_ret (v := .slice (some ⟨gg, 0, none⟩) 0 cap) (by simp [results, Try.results68, go_sem]) rfl ?_
    refine ⟨_, rfl, ?_, HN.out.2⟩
    have h := Kd.N_take HN.out.1 (m := 0) (Nat.zero_le _)
    rwa [List.take_zero] at h

set_option maxHeartbeats 4000000 in
set_option maxRecDepth 100000 in
theorem concat2_any (B : Nat) (A0 : Option Addr) (c0 : Nat) (L0 : List (List Int)) (A1 : Option Addr) (c1 : Nat) (L1 : List (List Int)) (w : World) (hblk : w.heap[B]? = some (.cells #[.slice A0 L0.length c0, .slice A1 L1.length c1] 23 (0, 0))) (hr0 : Kd.C KL w A0 L0.length L0) (hr1 : Kd.C KL w A1 L1.length L1)
    (hm0 : L0.length ≤ 400000000) (hm1 : L1.length ≤ 400000000) :
    Calls Try.prog 50 #[.slice (some ⟨B, 0, none⟩) 2 2] w fun e w' => ∃ v, e = .returned v ∧ Kd.N KL 22 w' w.heap.size (fun _ => True) v (L0 ++ L1) ∧ Below w.heap.size w w' := by
  have HR := Aside0.mk (And.intro hr0 (And.intro hr1 hblk))
  have q0 := blk2_c0 hblk
  have q1 := blk2_c1 hblk
  have hBlt := (Array.getElem?_eq_some_iff.1 hblk).1
  clear hr0 hr1 hblk
  go_enter Try.func50, Try.ntmps50
  go_wp2
  go_loopw [3, 11] (fun s i W => ∃ k m : Nat, (k = 0 ∧ m = 0 ∨ k = 1 ∧ m = L0.length ∨ k = 2 ∧ m = L0.length + L1.length) ∧ s = .int .i64 m ∧ i = .int .i64 k ∧ Aside0 (w = W)) (fun _ i _ => 2 - (intOf i).toNat)
  case atStart => exact ⟨0, 0, .inl ⟨rfl, rfl⟩, rfl, rfl, ⟨rfl⟩⟩
  case round =>
    obtain ⟨k, m, hkm, rfl, rfl, HW⟩ := hrel
    obtain rfl := HW.out
    rcases hkm with ⟨rfl, rfl⟩ | ⟨rfl, rfl⟩ | ⟨rfl, rfl⟩
    · have hneg : decide ((L0.length : Int) < 0) = false := decide_eq_false (by omega)
      go_wp2
      go_roundw
      case rel => exact ⟨1, L0.length, .inr (.inl ⟨rfl, rfl⟩), by go_num, by go_num, ⟨by trivial⟩⟩
      case measure => simp [intOf]
    · have hneg : decide ((L0.length : Int) + (L1.length : Int) < 0) = false := decide_eq_false (by omega)
      have hw : IntKind.i64.wrap ((L0.length : Int) + (L1.length : Int)) = (L0.length : Int) + (L1.length : Int) := IntWalk.i64_in _ (by omega)
      go_wp2
      go_roundw
      case rel => exact ⟨2, L0.length + L1.length, .inr (.inr ⟨rfl, rfl⟩), by go_num, by go_num, ⟨by trivial⟩⟩
      case measure => simp [intOf]
    · have hgr := grow_any (L0.length + L1.length) w (by omega)
      have HG := Aside0.mk hgr
      clear hgr
      go_wp2_with (go_at_call 68; refine HG.out.mono ?_; rintro e w1 ⟨v1, rfl, hN, hB⟩; have hval := Kd.N_val hN; have HN := Aside0.mk (And.intro hN hB); clear hN hB)
      clear hval HG q0 q1
      go_loopw [6, 27] (fun u i W => ∃ (k : Nat) (xs : List (List Int)), (k = 0 ∧ [] = xs ∨ k = 1 ∧ L0 = xs ∨ k = 2 ∧ L0 ++ L1 = xs) ∧ i = .int .i64 k ∧ Aside0 (Kd.N KL 22 W w.heap.size (fun _ => True) u xs ∧ Below w.heap.size w W)) (fun _ i _ => 2 - (intOf i).toNat)
      case atStart => exact ⟨0, [], .inl ⟨rfl, rfl⟩, rfl, HN⟩
      case round =>
        clear HN
        obtain ⟨k, xs, hkx, rfl, HN⟩ := hrel
        have hbl := (HN.out.2.block _ hBlt).trans HR.out.2.2
        have q0 := blk2_c0 hbl
        have q1 := blk2_c1 hbl
        clear hbl
        rcases hkx with ⟨rfl, rfl⟩ | ⟨rfl, rfl⟩ | ⟨rfl, rfl⟩
        · go_wp2_with (at_builtin; refine Kd.N_append_rows KL (w0 := w) w.heap.size rfl (.tmp 31) (.tmp 32) 23 22 (.slice none 0 0) 24 rfl Try.underlying23 infoInts rfl (by decide) (by decide) _ [] L0 A0 _ _ (fun _ => True) (fun k => k < w.heap.size) rfl rfl HN.out.1 (Kd.F_below (Kd.C_F heap_KL HR.out.1) HN.out.2) (fun k hk => ⟨trivial, fun e => by have h1 := Kd.N_base HN.out.1 k e.symm; have h2 : k < w.heap.size := hk; omega⟩) (fun _ _ => trivial) HN.out.2 HN.out.2.size (by first | omega | (simp only [List.length_nil]; omega)) ?_; intro v2 w2 hN hB hg hat; have HN2 := Aside0.mk (And.intro hN hB); clear hN hB hg hat)
          go_roundw
          case rel => exact ⟨1, L0, .inr (.inl ⟨rfl, rfl⟩), by go_num, HN2⟩
          case measure => simp [intOf]
        · go_wp2_with (at_builtin; refine Kd.N_append_rows KL (w0 := w) w.heap.size rfl (.tmp 31) (.tmp 32) 23 22 (.slice none 0 0) 24 rfl Try.underlying23 infoInts rfl (by decide) (by decide) _ L0 L1 A1 _ _ (fun _ => True) (fun k => k < w.heap.size) rfl rfl HN.out.1 (Kd.F_below (Kd.C_F heap_KL HR.out.2.1) HN.out.2) (fun k hk => ⟨trivial, fun e => by have h1 := Kd.N_base HN.out.1 k e.symm; have h2 : k < w.heap.size := hk; omega⟩) (fun _ _ => trivial) HN.out.2 HN.out.2.size (by first | omega | (simp only [List.length_nil]; omega)) ?_; intro v2 w2 hN hB hg hat; have HN2 := Aside0.mk (And.intro hN hB); clear hN hB hg hat)
          go_roundw
          case rel => exact ⟨2, L0 ++ L1, .inr (.inr ⟨rfl, rfl⟩), by go_num, HN2⟩
          case measure => simp [intOf]
        · go_wp2
          go_ret
          exact ⟨_, rfl, HN.out.1, HN.out.2⟩
end Go.Proofs.Ytlinhcgggfdlpaa.G

set_option linter.unusedVariables false
set_option linter.unusedSimpArgs false
namespace Go.Proofs.Ytlinhcgggfdlpaa.G
open Go.RowKit Go.Proofs.YtlinhcgggfdlpaaW.PrintWords Go.Proofs.YtlinhcgggfdlpaaW.PrintLast Go.Proofs.YtlinhcgggfdlpaaW.PrintMore

def unionRel (sa : List Int) (La : List (List Int)) (sb : List Int) (Lb : List (List Int)) : List Int × List (List Int) := if sa = sb then (sa, Pl.sortU (La ++ Lb)) else ([], [])
def unionErr (sa sb : List Int) : Int := if sa = sb then 0 else 1

/-- What stays through Union: the two arguments' boxes, and a box for the answer. -/
structure UnInv (w : World) (a0 a1 b0 b1 : Value) (W : World) : Prop where
  bel : Below w.heap.size w W
  A : W.heap[w.heap.size]? = some (.cells #[a0, a1] 25 (0, 0))
  B : W.heap[w.heap.size + 1]? = some (.cells #[b0, b1] 25 (0, 0))
  C : ∃ x y, W.heap[w.heap.size + 1 + 1]? = some (.cells #[x, y] 25 (0, 0))
theorem UnInv.step {w W W1 : World} {a0 a1 b0 b1 : Value} (h : UnInv w a0 a1 b0 b1 W) (hb : Below W.heap.size W W1) : UnInv w a0 a1 b0 b1 W1 :=
  ⟨below_then h.bel h.bel.size hb, (hb.block _ (Array.getElem?_eq_some_iff.1 h.A).1).trans h.A, (hb.block _ (Array.getElem?_eq_some_iff.1 h.B).1).trans h.B, by
    obtain ⟨x, y, hc⟩ := h.C
    exact ⟨x, y, (hb.block _ (Array.getElem?_eq_some_iff.1 hc).1).trans hc⟩⟩
theorem UnInv.all {w W : World} {a0 a1 b0 b1 : Value} (h : UnInv w a0 a1 b0 b1 W) : W.cell? ⟨w.heap.size, 0, none⟩ = some a0 ∧ W.cell? ⟨w.heap.size, 1, none⟩ = some a1 ∧ W.cell? ⟨w.heap.size + 1, 0, none⟩ = some b0 ∧ W.cell? ⟨w.heap.size + 1, 1, none⟩ = some b1 ∧ UnInv w a0 a1 b0 b1 W :=
  ⟨blk2_c0 h.A, blk2_c1 h.A, blk2_c0 h.B, blk2_c1 h.B, h⟩
theorem UnInv.out_step {w W W1 : World} {a0 a1 b0 b1 : Value} (h : W.cell? ⟨w.heap.size, 0, none⟩ = some a0 ∧ W.cell? ⟨w.heap.size, 1, none⟩ = some a1 ∧ W.cell? ⟨w.heap.size + 1, 0, none⟩ = some b0 ∧ W.cell? ⟨w.heap.size + 1, 1, none⟩ = some b1 ∧ UnInv w a0 a1 b0 b1 W) (hb : Below W.heap.size W W1) :
    W1.cell? ⟨w.heap.size, 0, none⟩ = some a0 ∧ W1.cell? ⟨w.heap.size, 1, none⟩ = some a1 ∧ W1.cell? ⟨w.heap.size + 1, 0, none⟩ = some b0 ∧ W1.cell? ⟨w.heap.size + 1, 1, none⟩ = some b1 ∧ UnInv w a0 a1 b0 b1 W1 := (h.2.2.2.2.step hb).all
theorem UnInv.set {w W : World} {a0 a1 b0 b1 : Value} (h : UnInv w a0 a1 b0 b1 W) (i : Nat) (u : Value) : UnInv w a0 a1 b0 b1 (W.setCell ⟨w.heap.size + 1 + 1, i, none⟩ u) :=
  ⟨h.bel.setCell (p := ⟨w.heap.size + 1 + 1, i, none⟩) (show w.heap.size ≤ w.heap.size + 1 + 1 by omega) u, (Below.heap_setCell _ _ _ _ (by simp; omega)).trans h.A, (Below.heap_setCell _ _ _ _ (by simp)).trans h.B, by
    obtain ⟨x, y, hc⟩ := h.C
    have h1 := blk_set1 hc i u
    match i with
    | 0 => exact ⟨u, y, h1⟩
    | 1 => exact ⟨x, u, h1⟩
    | k + 2 => exact ⟨x, y, h1⟩⟩
theorem UnInv.start (w : World) (a0 a1 b0 b1 x y : Value) : UnInv w a0 a1 b0 b1 (((w.alloc (.cells #[a0, a1] 25)).alloc (.cells #[b0, b1] 25)).alloc (.cells #[x, y] 25)) := by
  have h1 := heap_alloc_new w (.cells #[a0, a1] 25)
  have h2 := heap_alloc_new (w.alloc (.cells #[a0, a1] 25)) (.cells #[b0, b1] 25)
  have h3 := heap_alloc_new ((w.alloc (.cells #[a0, a1] 25)).alloc (.cells #[b0, b1] 25)) (.cells #[x, y] 25)
  simp only [World.size_alloc] at h2 h3
  exact ⟨below_alloc (below_alloc (below_alloc (Below.refl _ _) _) _) _, (Below.heap_alloc _ _ _ (by simp; omega)).trans ((Below.heap_alloc _ _ _ (by simp)).trans h1), (Below.heap_alloc _ _ _ (by simp)).trans h2, x, y, h3⟩

theorem UnInv.of {w W : World} {a0 a1 b0 b1 : Value} (h : W.cell? ⟨w.heap.size, 0, none⟩ = some a0 ∧ W.cell? ⟨w.heap.size, 1, none⟩ = some a1 ∧ W.cell? ⟨w.heap.size + 1, 0, none⟩ = some b0 ∧ W.cell? ⟨w.heap.size + 1, 1, none⟩ = some b1 ∧ UnInv w a0 a1 b0 b1 W) : UnInv w a0 a1 b0 b1 W := h.2.2.2.2

set_option maxHeartbeats 1000000 in
set_option maxRecDepth 100000 in
theorem union_any (A0 : Option Addr) (c0 : Nat) (sa : List Int) (A1 : Option Addr) (c1 : Nat) (La : List (List Int)) (A2 : Option Addr) (c2 : Nat) (sb : List Int) (A3 : Option Addr) (c3 : Nat) (Lb : List (List Int)) (w : World)
    (hr0 : Kd.C KI w A0 sa.length sa) (hr1 : Kd.C KL w A1 La.length La) (hr2 : Kd.C KI w A2 sb.length sb) (hr3 : Kd.C KL w A3 Lb.length Lb) (hm : sa.length ≤ 1000000000) (hm1 : La.length ≤ 400000000) (hm2 : Lb.length ≤ 400000000) (hx1 : ∀ x ∈ La, x.length < 17592186044416) (hx2 : ∀ x ∈ Lb, x.length < 17592186044416) :
    Calls Try.prog 21 #[.agg #[.slice A0 sa.length c0, .slice A1 La.length c1], .agg #[.slice A2 sb.length c2, .slice A3 Lb.length c3]] w fun e w' => MakeTo w w' e (unionRel sa La sb Lb) (unionErr sa sb) := by
  have HR := Aside0.mk (And.intro hr0 (And.intro hr1 (And.intro hr2 hr3)))
  have HX := Aside0.mk (show ∀ x ∈ La ++ Lb, x.length < 17592186044416 from fun x hx => (List.mem_append.1 hx).elim (hx1 x) (hx2 x))
  clear hr0 hr1 hr2 hr3 hx1 hx2
  obtain ⟨W0, hW0⟩ : ∃ W0, ((w.alloc (.cells #[.slice A0 sa.length c0, .slice A1 La.length c1] 25)).alloc (.cells #[.slice A2 sb.length c2, .slice A3 Lb.length c3] 25)).alloc (.cells #[.slice none 0 0, .slice none 0 0] 25) = W0 := ⟨_, rfl⟩
  have hI0 : UnInv w (.slice A0 sa.length c0) (.slice A1 La.length c1) (.slice A2 sb.length c2) (.slice A3 Lb.length c3) W0 := by rw [← hW0]; exact UnInv.start _ _ _ _ _ _ _
  have HI0 := Aside0.mk hI0
  have q0 := blk2_c0 hI0.A
  have q1 := blk2_c0 hI0.B
  clear hI0
  go_enter Try.func21, Try.ntmps21
  have hcl := slices_Equal_any A0 c0 sa A2 c2 sb W0 (Kd.C_below HR.out.1 HI0.out.bel) (Kd.C_below HR.out.2.2.1 HI0.out.bel)
  by_cases hs : sa = sb
  · have HS := Aside0.mk hs
    rw [decide_eq_true hs] at hcl
    clear hs
    go_wp2_with (go_at_call 46; refine hcl.mono ?_; rintro e w1 ⟨rfl, hd⟩; have HI1 := Aside0.mk (HI0.out.step hd.below); clear hd)
    have hI := HI1.out.all
    obtain ⟨r0, r1, r2, r3, _⟩ := HI1.out.all
    clear hcl hW0 q0 q1
    go_region_held3 (fun W => W.cell? ⟨w.heap.size, 0, none⟩ = some (.slice A0 sa.length c0) ∧ W.cell? ⟨w.heap.size, 1, none⟩ = some (.slice A1 La.length c1) ∧ W.cell? ⟨w.heap.size + 1, 0, none⟩ = some (.slice A2 sb.length c2) ∧ W.cell? ⟨w.heap.size + 1, 1, none⟩ = some (.slice A3 Lb.length c3) ∧ UnInv w (.slice A0 sa.length c0) (.slice A1 La.length c1) (.slice A2 sb.length c2) (.slice A3 Lb.length c3) W)
      (first | with_reducible exact HS5A.out | with_reducible exact HS4A.out | with_reducible exact HS3A.out | with_reducible exact HS2A.out | with_reducible exact UnInv.out_step (by assumption) (below_alloc (Below.refl _ _) _) | with_reducible exact UnInv.out_step (by assumption) (below_drew (Below.refl _ _)))
      (first
        | (go_at_call 48; refine (slices_Clone_any A0 c0 sa _ (Kd.C_below HR.out.1 (UnInv.of (by assumption)).bel) (by omega)).mono ?_; rintro e w2 ⟨v2, rfl, hv2, hb2⟩; have hS2 := UnInv.out_step (by assumption) hb2; have HS2A := Aside0.mk hS2; obtain ⟨A5, c5, rfl, _, _⟩ := Kd.R_reads hv2; have HV2 := Aside0.mk hv2; clear hv2 hS2; try (have hbk : w2.heap[w1.heap.size]? = some (.cells #[.slice A1 La.length c1, .slice A3 Lb.length c3] 23 (0, 0)) := (hb2.block w1.heap.size (by simp)).trans (heap_alloc_new w1.drew _)))
        | (go_at_call 50; (first | refine (concat2_any w1.heap.size A1 c1 La A3 c3 Lb _ hbk (Kd.C_below HR.out.2.1 (UnInv.of (by assumption)).bel) (Kd.C_below HR.out.2.2.2 (UnInv.of (by assumption)).bel) hm1 hm2).mono ?_ | refine (concat2_any w2.heap.size A1 c1 La A3 c3 Lb _ (heap_alloc_new w2 _) (Kd.C_below HR.out.2.1 (UnInv.of (by assumption)).bel) (Kd.C_below HR.out.2.2.2 (UnInv.of (by assumption)).bel) hm1 hm2).mono ?_); rintro e w3 ⟨v3, rfl, hv3, hb3⟩; have hS3 := UnInv.out_step (by assumption) hb3; have HS3A := Aside0.mk hS3; obtain ⟨A6, c6, rfl, _, hr6⟩ := Kd.N_reads hv3; have hso := tuple_Sort_any A6 c6 (La ++ Lb) w3 hr6 (by rw [List.length_append]; omega) HX.out; rw [List.length_append] at hso; clear hv3 hr6 hS3)
        | (go_at_call 49; refine hso.mono ?_; rintro e w4 ⟨v4, rfl, hv4, hb4⟩; obtain ⟨A7, c7, rfl, _, _⟩ := Kd.N_reads hv4; have HV4 := Aside0.mk hv4; clear hv4;
           have hS4 := UnInv.out_step (by assumption) hb4; have HS4A := Aside0.mk hS4; have HI4 := Aside0.mk (UnInv.of hS4); clear hS4; have HS5A := Aside0.mk ((HI4.out.set 0 (.slice A5 sa.length c5)).set 1 (.slice A7 (Pl.sortU (La ++ Lb)).length c7)).all; obtain ⟨x, y, hx4⟩ := HI4.out.C; have p0 := blk2_c0 hx4; have p1 := blk_fr (i := 0) hx4; have hs0 := blk2_s0 hx4 (.slice A5 sa.length c5); have p2 := blk2_c1 hs0; have p3 := blk_fr (i := 1) hs0; have hs1 := blk2_s1 hs0 (.slice A7 (Pl.sortU (La ++ Lb)).length c7); have HS1 := Aside0.mk (And.intro hs1 hx4); clear hs0 hs1 hx4))
    all_goals
      have hbA : Below w2.heap.size w2 w3 := by first | exact hb3 | exact below_then (below_alloc (Below.refl _ _) _) (by simp) hb3
      have hbB := below_then hbA hbA.size hb4
      have q4 := blk2_c0 HS1.out.1
      have q5 := blk2_c1 HS1.out.1
      go_wp2
      refine bodyPost_ret (v := .tuple #[.agg #[.slice A5 sa.length c5, .slice A7 (Pl.sortU (La ++ Lb)).length c7], .int .i64 0]) (by simp [results, Try.results21, go_sem, q4, q5]) rfl ?_
      obtain ⟨x', y', hC⟩ := HI1.out.C
      have hlt : w.heap.size + 1 + 1 < w1.heap.size := (Array.getElem?_eq_some_iff.1 hC).1
      have hw2 : w1.heap.size ≤ w2.heap.size := by have := hb2.size; simp at this; omega
      have hw3 : w1.heap.size ≤ w3.heap.size := Nat.le_trans hw2 hbA.size
      have hR := Kd.R_lower (base' := w1.heap.size) (Kd.R_below HV2.out hbB) (by simp)
      have hM : RelM w4 w1.heap.size (.agg #[.slice A5 sa.length c5, .slice A7 (Pl.sortU (La ++ Lb)).length c7]) (sa, Pl.sortU (La ++ Lb)) :=
        ⟨_, _, rfl, Kd.R_mono (Kd.R_bound hR) (fun k hk => hk.2.1), Kd.N_mono (Kd.N_lower HV4.out hw3) (fun k hk => Nat.le_trans hw3 hk)⟩
      rw [unionRel, unionErr, if_pos HS.out, if_pos HS.out]
      exact ⟨_, rfl, RelM.lower ((hM.far (p := ⟨w.heap.size + 1 + 1, 0, none⟩) hlt _).far (p := ⟨w.heap.size + 1 + 1, 1, none⟩) hlt _) (by omega), ((HI4.out.set 0 _).set 1 _).bel⟩
  · have HS := Aside0.mk hs
    rw [decide_eq_false hs] at hcl
    have hno : unionRel sa La sb Lb = ([], []) ∧ unionErr sa sb = 1 := ⟨if_neg hs, if_neg hs⟩
    have HNO := Aside0.mk hno
    clear hs hno
    go_wp2_with (go_at_call 46; refine hcl.mono ?_; rintro e w1 ⟨rfl, hd⟩; have HI1 := Aside0.mk (HI0.out.step hd.below); obtain ⟨x, y, hx4⟩ := HI1.out.C; have p0 := blk2_c0 hx4; have p1 := blk_fr (i := 0) hx4; have hs0 := blk2_s0 hx4 (.slice none 0 0); have p2 := blk2_c1 hs0; have p3 := blk_fr (i := 1) hs0; have hs1 := blk2_s1 hs0 (.slice none 0 0); have HS1 := Aside0.mk hs1; clear hs0 hs1 hd hx4)
    have q4 := blk2_c0 HS1.out
    have q5 := blk2_c1 HS1.out
    refine bodyPost_ret (v := .tuple #[.agg #[.slice none 0 0, .slice none 0 0], .int .i64 1]) (by simp [results, Try.results21, go_sem, q4, q5]) rfl ?_
    rw [HNO.out.1, HNO.out.2]
    exact ⟨_, rfl, RelM.none_ _ _, ((HI1.out.set 0 _).set 1 _).bel⟩
end Go.Proofs.Ytlinhcgggfdlpaa.G
