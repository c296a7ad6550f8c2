/- Several texts of this claim in one. -/
import Derived.Test.YtlmkgghpaaadhaaGreatDoorMX
import Derived.Test.YtlmkgghpaaadhaaGreatDoorMW
import Derived.Test.YtlmkgghpaaadhaaGreatDoorMR
/- The weigh laws' shown: its numbers. -/
set_option linter.unusedVariables false
set_option linter.unusedSimpArgs false
namespace Go.Proofs.YtlmkgghpaaadhaaGreatDoor.G
open Go.RowKit Go.Proofs.YtlmkgghpaaadhaaGreatDoorW.PrintWords Go.Proofs.YtlmkgghpaaadhaaGreatDoorW.PrintLast Go.Proofs.YtlmkgghpaaadhaaGreatDoorW.PrintMore

def a4 : WRel := ⟨[0], [[1], [2]], [3, 3]⟩
theorem s4_o : onto [0] [] = [] := by rw [onto_eq _ _ (by decide)]; decide
theorem s4_p : projRel [0] [[1], [2]] [] = ([], [[]]) := by rw [projRel, s4_o]; decide
theorem s4_s : sumTo a4 [] [[]] = (⟨[], [[]], [6]⟩, 0) := by rfl
theorem s4_m : minTo a4 [] [[]] = ⟨[], [[]], [3]⟩ := by rfl
theorem s4_uni : uni [0] [0] = [0] := by simp [uni, merge]
theorem s4_rows : joinRows [0] [[1], [2]] [0] [[1], [2]] = [[1], [2]] := by unfold joinRows bothRow; rw [s4_uni]; decide
theorem s4_w1 : weightOf [0] [[1], [2]] [3, 3] [0] [1] = 3 := by decide
theorem s4_w2 : weightOf [0] [[1], [2]] [3, 3] [0] [2] = 3 := by decide
theorem s4_j (f : WF) (y : Int) (h : f 3 3 = (y, true)) : joinedTo f a4 a4 10 = (⟨[0], [[1], [2]], [y, y]⟩, 0) := by
  unfold joinedTo wRow a4
  simp only [s4_uni, s4_rows]
  simp only [List.map_cons, List.map_nil, s4_w1, s4_w2, h]
  simp [s4_w1, s4_w2, h]
theorem s4_t : joinedTo fTimes a4 a4 10 = (⟨[0], [[1], [2]], [9, 9]⟩, 0) := s4_j _ _ (by kernel_rfl)
theorem s4_q : joinedTo fPlus a4 a4 10 = (⟨[0], [[1], [2]], [6, 6]⟩, 0) := s4_j _ _ (by kernel_rfl)
theorem s4_1 : joinedTo fTimes a4 a4 1 = (⟨[], [], []⟩, 9) := by
  unfold joinedTo a4
  simp only [s4_rows]
  rfl
end Go.Proofs.YtlmkgghpaaadhaaGreatDoor.G

/- The weigh laws' shown: a small case that must work. -/
set_option linter.unusedVariables false
set_option linter.unusedSimpArgs false
namespace Go.Proofs.YtlmkgghpaaadhaaGreatDoor.G
open Go.RowKit Go.Proofs.YtlmkgghpaaadhaaGreatDoorW.PrintWords Go.Proofs.YtlmkgghpaaadhaaGreatDoorW.PrintLast Go.Proofs.YtlmkgghpaaadhaaGreatDoorW.PrintMore
/-- Cells that hold. -/
def Cs (W : World) : List (Addr × Value) → Prop
  | [] => True
  | x :: l => W.cell? x.1 = some x.2 ∧ Cs W l
theorem Cs.step {W W1 : World} {l : List (Addr × Value)} (h : Cs W l) (hb : Below W.heap.size W W1) : Cs W1 l := by
  induction l with
  | nil => exact trivial
  | cons x l ih => exact ⟨(hb.cell (World.block_lt_of_cell? W _ h.1)).trans h.1, ih h.2⟩
theorem a4_rt : Rt [0] [[1], [2]] := ⟨by decide, by simp, by simp, by simp [InR]⟩
theorem a4_in : InW [3, 3] := fun x hx => by simp at hx; subst hx; decide
theorem lit_ints1 (w : World) (x : Int) : Kd.C KI (w.alloc (.cells #[.int .i64 x] 3)) (some ⟨w.heap.size, 0, none⟩) 1 [x] := lit_ints w [x] (by simp)
theorem rd_lit2 (w : World) (x y z : Int) :
    RelRd ((((w.alloc (.cells #[.int .i64 x] 3)).alloc (.cells #[.int .i64 y] 3)).alloc (.cells #[.int .i64 z] 3)).alloc (.cells #[.slice (some ⟨w.heap.size + 1, 0, none⟩) 1 1, .slice (some ⟨w.heap.size + 1 + 1, 0, none⟩) 1 1] 22)) (some ⟨w.heap.size, 0, none⟩) 1 [x] (some ⟨w.heap.size + 1 + 1 + 1, 0, none⟩) 2 [[y], [z]] ∧ Below w.heap.size w ((((w.alloc (.cells #[.int .i64 x] 3)).alloc (.cells #[.int .i64 y] 3)).alloc (.cells #[.int .i64 z] 3)).alloc (.cells #[.slice (some ⟨w.heap.size + 1, 0, none⟩) 1 1, .slice (some ⟨w.heap.size + 1 + 1, 0, none⟩) 1 1] 22)) := by
  have h1 := lit_ints1 w x
  have h2 := Kd.C_below (lit_ints1 (w.alloc (.cells #[.int .i64 x] 3)) y) (below_alloc (Below.refl _ _) (.cells #[.int .i64 z] 3))
  have h2' := lit_ints1 ((w.alloc (.cells #[.int .i64 x] 3)).alloc (.cells #[.int .i64 y] 3)) z
  have h3 := lit_rows2 (c := 1) (d := 1) h2 (by simp) h2' (by simp)
  simp only [World.size_alloc, List.length_singleton] at h3
  exact ⟨⟨Kd.C_below (Kd.C_below (Kd.C_below h1 (below_alloc (Below.refl _ _) _)) (below_alloc (Below.refl _ _) _)) (below_alloc (Below.refl _ _) _), Nat.le_refl _, h3, Nat.le_refl _⟩, below_alloc (below_alloc (below_alloc (below_alloc (Below.refl _ _) _) _) _) _⟩
theorem rd_litu (w : World) (n : Nat) (hn : w.heap.size = n) : RelRd ((w.alloc (.cells #[] 3)).alloc (.cells #[.slice (some ⟨n, 0, none⟩) 0 0] 22)) none 0 [] (some ⟨n + 1, 0, none⟩) 1 [[]] ∧ Below w.heap.size w ((w.alloc (.cells #[] 3)).alloc (.cells #[.slice (some ⟨n, 0, none⟩) 0 0] 22)) := by
  subst hn
  have h1 := lit_ints w [] (by simp)
  have h3 := lit_rows1 (c := 0) h1 (by simp)
  rw [World.size_alloc] at h3
  exact ⟨⟨Kd.C_nil _ _, Nat.le_refl _, h3, Nat.le_refl _⟩, below_alloc (below_alloc (Below.refl _ _) _) _⟩
theorem C_cx1 {W : World} {g : Nat} {x : Cx} (h : W.heap[g]? = some (.cells #[.complex .f64 x.1 x.2] 51 (0, 0))) : Kd.C KC W (some ⟨g, 0, none⟩) 1 [x] := by
  refine ⟨rfl, by omega, fun _ => ⟨_, rfl, fun j p hj => ?_⟩⟩
  match j, hj with
  | 0, hj =>
    obtain rfl : x = p := by simpa using hj
    refine ⟨[.complex .f64 x.1 x.2], rfl, rfl, fun i u hu => ?_⟩
    match i, hu with
    | 0, hu =>
      obtain rfl : Value.complex .f64 x.1 x.2 = u := by simpa using hu
      show World.cell? _ (Addr.add ⟨g, 0, none⟩ 0) = _
      rw [show Addr.add ⟨g, 0, none⟩ 0 = ⟨g, 0, none⟩ by simp [Addr.add], cell_of_row _ g _ _ _ _ h]
      rfl
section
variable {W : World} {A : Option Addr} {c : Nat} {A' : Option Addr} {c' : Nat} {Aw : Option Addr} {cw : Nat}
theorem s4_of (h : RelRd W A c [0] A' c' [[1], [2]]) : Calls Tryz.prog 28 #[.agg #[.slice A 1 c, .slice A' 2 c'], .int .i64 3] W fun e w' => ∃ A c A' c' Aw cw, e = .returned (.agg #[.slice A 1 c, .slice A' 2 c', .slice Aw 2 cw]) ∧ WMk w' W.heap.size A c A' c' Aw cw ⟨[0], [[1], [2]], [3, 3]⟩ ∧ Below W.heap.size W w' :=
  of_int (L := [[1], [2]]) h (by decide) (by decide) (by decide) 3
theorem s4_sum (h : WRd W A c [0] A' c' [[1], [2]] Aw cw [3, 3]) : Calls Tryz.prog 25 #[.agg #[.slice A 1 c, .slice A' 2 c', .slice Aw 2 cw], .slice none 0 0] W fun e w' => ∃ A c A' c' Aw cw, e = .returned (.tuple #[.agg #[.slice A 0 c, .slice A' 1 c', .slice Aw 1 cw], .int .i64 0]) ∧ WMk w' W.heap.size A c A' c' Aw cw ⟨[], [[]], [6]⟩ ∧ Below W.heap.size W w' :=
  sum_any (a := a4) (vars := []) (r := ⟨[], [[]], [6]⟩) (n := 0) h a4_in (Kd.C_nil _ _) (by decide) (by decide) (by decide) s4_p (by simp [Ord]) (by decide) (by decide) s4_s
theorem s4_min (h : WRd W A c [0] A' c' [[1], [2]] Aw cw [3, 3]) : Calls Tryz.prog 26 #[.agg #[.slice A 1 c, .slice A' 2 c', .slice Aw 2 cw], .slice none 0 0] W fun e w' => ∃ A c A' c' Aw cw, e = .returned (.agg #[.slice A 0 c, .slice A' 1 c', .slice Aw 1 cw]) ∧ WMk w' W.heap.size A c A' c' Aw cw ⟨[], [[]], [3]⟩ ∧ Below W.heap.size W w' :=
  min_any (a := a4) (vars := []) (r := ⟨[], [[]], [3]⟩) h (Kd.C_nil _ _) (by decide) (by decide) (by decide) s4_p (by simp [Ord]) (by decide) (by decide) s4_m
theorem s4_times (h : WRd W A c [0] A' c' [[1], [2]] Aw cw [3, 3]) (ht : Tab W) : Calls Tryz.prog 15 #[.agg #[.slice A 1 c, .slice A' 2 c', .slice Aw 2 cw], .agg #[.slice A 1 c, .slice A' 2 c', .slice Aw 2 cw], .int .i64 10] W fun e w' => ∃ A c A' c' Aw cw, e = .returned (.tuple #[.agg #[.slice A 1 c, .slice A' 2 c', .slice Aw 2 cw], .int .i64 0]) ∧ WMk w' W.heap.size A c A' c' Aw cw ⟨[0], [[1], [2]], [9, 9]⟩ ∧ Below W.heap.size W w' :=
  times_any (a := a4) (b := a4) h a4_rt a4_in h a4_rt a4_in (by decide) (by decide) 10 ht s4_t
theorem s4_plus (h : WRd W A c [0] A' c' [[1], [2]] Aw cw [3, 3]) (ht : Tab W) : Calls Tryz.prog 17 #[.agg #[.slice A 1 c, .slice A' 2 c', .slice Aw 2 cw], .agg #[.slice A 1 c, .slice A' 2 c', .slice Aw 2 cw], .int .i64 10] W fun e w' => ∃ A c A' c' Aw cw, e = .returned (.tuple #[.agg #[.slice A 1 c, .slice A' 2 c', .slice Aw 2 cw], .int .i64 0]) ∧ WMk w' W.heap.size A c A' c' Aw cw ⟨[0], [[1], [2]], [6, 6]⟩ ∧ Below W.heap.size W w' :=
  plus_any (a := a4) (b := a4) h a4_rt a4_in h a4_rt a4_in (by decide) (by decide) 10 ht s4_q
theorem s4_times1 (h : WRd W A c [0] A' c' [[1], [2]] Aw cw [3, 3]) (ht : Tab W) : Calls Tryz.prog 15 #[.agg #[.slice A 1 c, .slice A' 2 c', .slice Aw 2 cw], .agg #[.slice A 1 c, .slice A' 2 c', .slice Aw 2 cw], .int .i64 1] W fun e w' => ∃ A c A' c' Aw cw, e = .returned (.tuple #[.agg #[.slice A 0 c, .slice A' 0 c', .slice Aw 0 cw], .int .i64 9]) ∧ WMk w' W.heap.size A c A' c' Aw cw ⟨[], [], []⟩ ∧ Below W.heap.size W w' :=
  times_any (a := a4) (b := a4) h a4_rt a4_in h a4_rt a4_in (by decide) (by decide) 1 ht s4_1
theorem s4_ofc (h : RelRd W A c [] A' c' [[]]) : Calls Tryz.prog 32 #[.agg #[.slice A 0 c, .slice A' 1 c'], .complex .f64 0 4611686018427387904] W fun e w' => ∃ A c A' c' Aw cw, e = .returned (.agg #[.slice A 0 c, .slice A' 1 c', .slice Aw 1 cw]) ∧ WRdC w' A c [] A' c' [[]] Aw cw [(0, 4611686018427387904)] ∧ Below W.heap.size W w' := by
  refine (of_cx (L := [[]]) h (by decide) (by decide) (by decide) (0, 4611686018427387904)).mono ?_
  rintro e w' ⟨A, c, A', c', gR, rfl, hM, _, hk, hb⟩
  exact ⟨A, c, A', c', _, _, rfl, ⟨RelM.rd' hM, C_cx1 hk, Nat.le_refl _⟩, hb⟩
theorem s4_uu : joinRows [] [[]] [] [[]] = [[]] := join_unit right_unit
theorem s4_timesc (h : WRdC W A c [] A' c' [[]] Aw cw [(0, 4611686018427387904)]) (ht : Tab W) : Calls Tryz.prog 20 #[.agg #[.slice A 0 c, .slice A' 1 c', .slice Aw 1 cw], .agg #[.slice A 0 c, .slice A' 1 c', .slice Aw 1 cw], .int .i64 1] W fun e w' => ∃ A c A' c' Aw cw, e = .returned (.tuple #[.agg #[.slice A 0 c, .slice A' 1 c', .slice Aw 1 cw], .int .i64 0]) ∧ WMkC w' W.heap.size A c A' c' Aw cw ⟨[], [[]], [(13839561654909534208, 0)]⟩ ∧ Below W.heap.size W w' := by
  have hu : uni ([] : List Int) [] = [] := by simp [uni, merge]
  have hw : weightOfC [] [[]] [(0, 4611686018427387904)] [] [] = (0, 4611686018427387904) := by decide
  refine times_anyC (a := ⟨[], [[]], [(0, 4611686018427387904)]⟩) (b := ⟨[], [[]], [(0, 4611686018427387904)]⟩) h rt_unit h rt_unit (by decide) (by decide) 1 ht (fun _ _ => ((13839561654909534208, 0), true)) (fun W t ht => ?_) (r := ⟨[], [[]], [(13839561654909534208, 0)]⟩) (n := 0) ?_
  · rw [show joinRows (WRelC.sc ⟨[], [[]], [(0, 4611686018427387904)]⟩) (WRelC.L ⟨[], [[]], [(0, 4611686018427387904)]⟩) (WRelC.sc ⟨[], [[]], [(0, 4611686018427387904)]⟩) (WRelC.L ⟨[], [[]], [(0, 4611686018427387904)]⟩) = [[]] from s4_uu] at ht
    rw [List.mem_singleton] at ht
    subst ht
    show Calls Tryz.prog 44 #[.complex .f64 (weightOfC [] [[]] [(0, 4611686018427387904)] (uni [] []) []).1 (weightOfC [] [[]] [(0, 4611686018427387904)] (uni [] []) []).2, .complex .f64 (weightOfC [] [[]] [(0, 4611686018427387904)] (uni [] []) []).1 (weightOfC [] [[]] [(0, 4611686018427387904)] (uni [] []) []).2] W fun e w' => e = .returned (.tuple #[.complex .f64 13839561654909534208 0, .bool true]) ∧ Drawn0 W w'
    rw [hu, hw]
    exact product_cx W
  · unfold joinedToC
    simp only [s4_uu, hu]
    rfl
end
theorem St4.next {w Wp w' : World} {A : Option Addr} {c : Nat} {sc : List Int} {A' : Option Addr} {c' : Nat} {L : List (List Int)} {Aw : Option Addr} {cw : Nat} {ws : List Int} {l : List (Addr × Value)} (h : Below w.heap.size w Wp ∧ WRd Wp A c sc A' c' L Aw cw ws ∧ Cs Wp l) (hb : Below Wp.heap.size Wp w') (o : Obj) : Below w.heap.size w (w'.alloc o) ∧ WRd (w'.alloc o) A c sc A' c' L Aw cw ws ∧ Cs (w'.alloc o) l :=
  ⟨below_alloc (below_then h.1 h.1.size hb) _, (h.2.1.step hb).step (below_alloc (Below.refl _ _) _), (h.2.2.step hb).step (below_alloc (Below.refl _ _) _)⟩
theorem St4.more {w W : World} {P : Prop} {l : List (Addr × Value)} (h : Below w.heap.size w W ∧ P ∧ Cs W l) {p : Addr} {v : Value} (hp : W.cell? p = some v) : Below w.heap.size w W ∧ P ∧ Cs W ((p, v) :: l) := ⟨h.1, h.2.1, hp, h.2.2⟩
theorem cell_next {w' : World} {p : Addr} {v : Value} (h : w'.cell? p = some v) (o : Obj) : (w'.alloc o).cell? p = some v := ((below_alloc (Below.refl w'.heap.size w') o).cell (World.block_lt_of_cell? w' _ h)).trans h

set_option maxHeartbeats 8000000 in
set_option maxRecDepth 100000 in
theorem shown4_any (w : World) (htab : Tab w) : Calls Tryz.prog 12 #[] w fun e w' => e = .returned (.bool true) ∧ Below w.heap.size w w' := by
  have HT := Aside0.mk htab
  have HL := Aside0.mk (rd_lit2 w 0 1 2)
  clear htab
  go_enter Tryz.func12, Tryz.ntmps12
  go_upto_region 2 with (go_at_call 28; refine (s4_of HL.out.1).mono ?_; rintro e w1 ⟨A1, c1, D1, d1, E1, e1, rfl, hM, hb⟩; have hz := blk3_c (heap_alloc_new w1 (.cells #[.slice A1 1 c1, .slice D1 2 d1, .slice E1 2 e1] 37)); have H1 := Aside0.mk (And.intro (below_alloc (below_then HL.out.2 HL.out.2.size hb) (.cells #[.slice A1 1 c1, .slice D1 2 d1, .slice E1 2 e1] 37)) (And.intro (hM.rd.step (below_alloc (Below.refl _ _) (.cells #[.slice A1 1 c1, .slice D1 2 d1, .slice E1 2 e1] 37))) (show Cs (w1.alloc (.cells #[.slice A1 1 c1, .slice D1 2 d1, .slice E1 2 e1] 37)) [(⟨w1.heap.size, 0, none⟩, .slice A1 1 c1), (⟨w1.heap.size, 1, none⟩, .slice D1 2 d1), (⟨w1.heap.size, 2, none⟩, .slice E1 2 e1)] from ⟨hz.1, hz.2.1, hz.2.2, trivial⟩))); have hc := H1.out.2.2; simp only [Cs] at hc; obtain ⟨y100, y101, y102, _⟩ := hc; clear hM hb hz)
  go_upto_region 3 with (go_at_call 25; refine (s4_sum H1.out.2.1).mono ?_; rintro e w2 ⟨A2, c2, D2, d2, E2, e2, rfl, hM, hb⟩; obtain ⟨x2, rfl, hx⟩ := at_int' hM.rd.w (Below.refl _ _) 0 (by decide) (by decide); simp only [Int.toNat_zero, Addr.add_zero'] at hx; replace hx : w2.cell? x2 = some (.int .i64 6) := hx; have hy := cell_next hx (.cells #[.slice A2 0 c2, .slice D2 1 d2, .slice (some x2) 1 e2] 37); have hz := blk3_c (heap_alloc_new w2 (.cells #[.slice A2 0 c2, .slice D2 1 d2, .slice (some x2) 1 e2] 37)); have H2 := Aside0.mk (St4.more (St4.more (St4.next H1.out hb (.cells #[.slice A2 0 c2, .slice D2 1 d2, .slice (some x2) 1 e2] 37)) hz.2.2) hy); have hc := H2.out.2.2; simp only [Cs] at hc; obtain ⟨y200, y201, y202, y203, y204, _⟩ := hc; clear hM hb hz hx hy)
  clear y100 y101 y102
  go_upto_region 4 with (go_at_call 26; refine (s4_min H2.out.2.1).mono ?_; rintro e w3 ⟨A3, c3, D3, d3, E3, e3, rfl, hM, hb⟩; obtain ⟨x3, rfl, hx⟩ := at_int' hM.rd.w (Below.refl _ _) 0 (by decide) (by decide); simp only [Int.toNat_zero, Addr.add_zero'] at hx; replace hx : w3.cell? x3 = some (.int .i64 3) := hx; have hy := cell_next hx (.cells #[.slice A3 0 c3, .slice D3 1 d3, .slice (some x3) 1 e3] 37); have hz := blk3_c (heap_alloc_new w3 (.cells #[.slice A3 0 c3, .slice D3 1 d3, .slice (some x3) 1 e3] 37)); have H3 := Aside0.mk (St4.more (St4.more (St4.next H2.out hb (.cells #[.slice A3 0 c3, .slice D3 1 d3, .slice (some x3) 1 e3] 37)) hz.2.2) hy); have hc := H3.out.2.2; simp only [Cs] at hc; obtain ⟨y300, y301, y302, y303, y304, y305, y306, _⟩ := hc; clear hM hb hz hx hy)
  clear y200 y201 y202 y203 y204
  go_upto_region 5 with (go_at_call 15; refine (s4_times H3.out.2.1 (HT.out.step H3.out.1)).mono ?_; rintro e w4 ⟨A4, c4, D4, d4, E4, e4, rfl, hM, hb⟩; obtain ⟨x4, rfl, hx⟩ := at_int' hM.rd.w (Below.refl _ _) 1 (by decide) (by decide); simp only [show Int.toNat 1 = 1 from rfl] at hx; replace hx : w4.cell? ⟨x4.block, x4.off + 1, none⟩ = some (.int .i64 9) := hx; have hy := cell_next hx (.cells #[.slice A4 1 c4, .slice D4 2 d4, .slice (some x4) 2 e4] 37); have hz := blk3_c (heap_alloc_new w4 (.cells #[.slice A4 1 c4, .slice D4 2 d4, .slice (some x4) 2 e4] 37)); have H4 := Aside0.mk (St4.more (St4.more (St4.next H3.out hb (.cells #[.slice A4 1 c4, .slice D4 2 d4, .slice (some x4) 2 e4] 37)) hz.2.2) hy); have hc := H4.out.2.2; simp only [Cs] at hc; obtain ⟨y400, y401, y402, y403, y404, y405, y406, y407, y408, _⟩ := hc; clear hM hb hz hx hy)
  clear y300 y301 y302 y303 y304 y305 y306
  go_upto_region 6 with (go_at_call 17; refine (s4_plus H4.out.2.1 (HT.out.step H4.out.1)).mono ?_; rintro e w5 ⟨A5, c5, D5, d5, E5, e5, rfl, hM, hb⟩; obtain ⟨x5, rfl, hx⟩ := at_int' hM.rd.w (Below.refl _ _) 0 (by decide) (by decide); simp only [Int.toNat_zero, Addr.add_zero'] at hx; replace hx : w5.cell? x5 = some (.int .i64 6) := hx; have hy := cell_next hx (.cells #[.slice A5 1 c5, .slice D5 2 d5, .slice (some x5) 2 e5] 37); have hz := blk3_c (heap_alloc_new w5 (.cells #[.slice A5 1 c5, .slice D5 2 d5, .slice (some x5) 2 e5] 37)); have H5 := Aside0.mk (St4.more (St4.more (St4.next H4.out hb (.cells #[.slice A5 1 c5, .slice D5 2 d5, .slice (some x5) 2 e5] 37)) hz.2.2) hy); have hc := H5.out.2.2; simp only [Cs] at hc; obtain ⟨y500, y501, y502, y503, y504, y505, y506, y507, y508, y509, y510, _⟩ := hc; clear hM hb hz hx hy)
  clear y400 y401 y402 y403 y404 y405 y406 y407 y408
  go_upto_region 7 with (go_at_call 15; refine (s4_times1 H5.out.2.1 (HT.out.step H5.out.1)).mono ?_; rintro e w6 ⟨A6, c6, D6, d6, E6, e6, rfl, hM, hb⟩; have hz := blk3_c (heap_alloc_new w6 (.cells #[.slice A6 0 c6, .slice D6 0 d6, .slice E6 0 e6] 37)); have H6 := Aside0.mk (St4.next H5.out hb (.cells #[.slice A6 0 c6, .slice D6 0 d6, .slice E6 0 e6] 37)); have hc := H6.out.2.2; simp only [Cs] at hc; obtain ⟨y600, y601, y602, y603, y604, y605, y606, y607, y608, y609, y610, _⟩ := hc; clear hM hb hz)
  have HU := Aside0.mk (rd_litu (w6.alloc (.cells #[.slice A6 0 c6, .slice D6 0 d6, .slice E6 0 e6] 37)) (w6.heap.size + 1) (World.size_alloc _ _))
  clear y500 y501 y502 y503 y504 y505 y506 y507 y508 y509 y510
  go_upto_region 8 with (go_at_call 32; refine (s4_ofc HU.out.1).mono ?_; rintro e w7 ⟨A7, c7, D7, d7, E7, e7, rfl, hM, hb⟩; have hz := blk3_c (heap_alloc_new w7 (.cells #[.slice A7 0 c7, .slice D7 1 d7, .slice E7 1 e7] 48)); have HC := Aside0.mk (hM.step (below_alloc (Below.refl _ _) (.cells #[.slice A7 0 c7, .slice D7 1 d7, .slice E7 1 e7] 48))); have H7 := Aside0.mk (St4.more (St4.more (St4.more (St4.next ⟨below_then H6.out.1 H6.out.1.size HU.out.2, H6.out.2.1.step HU.out.2, H6.out.2.2.step HU.out.2⟩ hb (.cells #[.slice A7 0 c7, .slice D7 1 d7, .slice E7 1 e7] 48)) hz.1) hz.2.1) hz.2.2); have hc := H7.out.2.2; simp only [Cs] at hc; obtain ⟨y700, y701, y702, y703, y704, y705, y706, y707, y708, y709, y710, y711, y712, y713, _⟩ := hc; clear hM hb hz)
  clear y600 y601 y602 y603 y604 y605 y606 y607 y608 y609 y610
  go_upto_region 9 with (go_at_call 20; refine (s4_timesc HC.out (HT.out.step H7.out.1)).mono ?_; rintro e w8 ⟨A8, c8, D8, d8, E8, e8, rfl, hM, hb⟩; obtain ⟨x8, rfl, hx⟩ := at_cx hM.rd.w (Below.refl _ _) 0 (by decide) (by decide); simp only [Int.toNat_zero, Addr.add_zero'] at hx; replace hx : w8.cell? x8 = some (.complex .f64 13839561654909534208 0) := hx; have hy := cell_next hx (.cells #[.slice A8 0 c8, .slice D8 1 d8, .slice (some x8) 1 e8] 48); have hz := blk3_c (heap_alloc_new w8 (.cells #[.slice A8 0 c8, .slice D8 1 d8, .slice (some x8) 1 e8] 48)); have H8 := Aside0.mk (St4.more (St4.more (St4.next H7.out hb (.cells #[.slice A8 0 c8, .slice D8 1 d8, .slice (some x8) 1 e8] 48)) hz.2.2) hy); have hc := H8.out.2.2; simp only [Cs] at hc; obtain ⟨y800, y801, y802, y803, y804, y805, y806, y807, y808, y809, y810, y811, y812, y813, y814, y815, _⟩ := hc; clear hM hb hz hx hy)
  clear y700 y701 y702 y703 y704 y705 y706 y707 y708 y709 y710 y711 y712 y713
  have hce : ∀ W, (binOp .eql 51 (.complex .f64 13839561654909534208 0) (.complex .f64 13839561654909534208 0)).run Tryz.prog W = .ok (.bool true) W := fun W => by kernel_rfl
  go_wp2
  go_ret
  exact ⟨rfl, H8.out.1⟩
end Go.Proofs.YtlmkgghpaaadhaaGreatDoor.G

/- What scheme and ref of the weigh laws make, in plain words. -/
set_option linter.unusedVariables false
set_option linter.unusedSimpArgs false
namespace Go.Proofs.YtlmkgghpaaadhaaGreatDoor.G
open Go.RowKit Go.Proofs.YtlmkgghpaaadhaaGreatDoorW.PrintWords Go.Proofs.YtlmkgghpaaadhaaGreatDoorW.PrintLast Go.Proofs.YtlmkgghpaaadhaaGreatDoorW.PrintMore

def smallS3 (l : List Int) : List Int := (l.take 3).foldl (fun s v => uni1 s (md v 5)) []
def smallRows3 (n : Nat) (rows : List (List Int)) : List (List Int) := Pl.sortU ((rows.take 12).map (smallRow n))
theorem foldl_uni3 (l s : List Int) : (l.foldl (fun s v => uni1 s (md v 5)) s).length ≤ s.length + l.length ∧ (Rise s → Rise (l.foldl (fun s v => uni1 s (md v 5)) s)) ∧ ∀ x, x ∈ l.foldl (fun s v => uni1 s (md v 5)) s → x ∈ s ∨ ∃ v, x = md v 5 := by
  induction l generalizing s with
  | nil => exact ⟨Nat.le_refl _, id, fun x h => .inl h⟩
  | cons a l ih =>
    obtain ⟨h1, h2, h3⟩ := ih (uni1 s (md a 5))
    refine ⟨?_, fun h => h2 (uni1_rise _ _ h), fun x hx => ?_⟩
    · have := uni1_len s (md a 5)
      simp only [List.foldl_cons, List.length_cons]; omega
    · rcases h3 x hx with h | h
      · rcases (uni1_mem _ _ _).1 h with h | h
        · exact .inl h
        · exact .inr ⟨a, h⟩
      · exact .inr h
theorem smallS3_pos (l : List Int) : ∀ x ∈ smallS3 l, 0 ≤ x ∧ x < 5 := fun x hx => by
  rcases (foldl_uni3 (l.take 3) []).2.2 x hx with h | ⟨v, rfl⟩
  · simp at h
  · exact md_pos v 5 (by omega)
theorem smallS3_len (l : List Int) : (smallS3 l).length ≤ 3 := by
  have h := (foldl_uni3 (l.take 3) []).1
  have h2 : (l.take 3).length ≤ 3 := by simp; omega
  unfold smallS3
  simp only [List.length_nil] at h
  omega
theorem smallS3_rise (l : List Int) : Rise (smallS3 l) := (foldl_uni3 (l.take 3) []).2.1 List.Pairwise.nil
theorem smallRows3_up (n : Nat) (L : List (List Int)) : Pl.Up (smallRows3 n L) := Pl.sortU_up _
theorem smallRows3_len (n : Nat) (L : List (List Int)) : (smallRows3 n L).length ≤ 12 := by
  have := Pl.sortU_length_le ((L.take 12).map (smallRow n))
  unfold smallRows3
  simp only [List.length_map, List.length_take] at this
  omega
theorem smallRows3_row (n : Nat) (L : List (List Int)) : ∀ x ∈ smallRows3 n L, x.length = n := fun x hx => by
  unfold smallRows3 at hx
  rw [Pl.mem_sortU] at hx
  obtain ⟨t, _, rfl⟩ := List.mem_map.1 hx
  exact smallRow_len n t

theorem right_small3 (l : List Int) (L : List (List Int)) : RightP (smallS3 l) (smallRows3 (smallS3 l).length L) :=
  ⟨⟨smallS3_rise l, fun ⟨h, h'⟩ => by
    have := (smallS3_pos l (rd (smallS3 l) 0) (by rw [show (0 : Int) = ((0 : Nat) : Int) from rfl, rd_get _ 0 h]; exact List.getElem_mem h)).1
    omega⟩, smallRows3_row _ _, smallRows3_up _ _⟩
theorem smallRow_in (n : Nat) (row : List Int) : ∀ x ∈ smallRow n row, 0 ≤ x ∧ x ≤ 2 := fun x hx => by
  unfold smallRow at hx
  obtain ⟨q, _, rfl⟩ := List.mem_map.1 hx
  split
  · have := md_pos (rd row q) 3 (by omega); omega
  · omega
theorem small3_in (n : Nat) (L : List (List Int)) : InR (smallRows3 n L) := fun t ht x hx => by
  unfold smallRows3 at ht
  rw [Pl.mem_sortU] at ht
  obtain ⟨r, _, rfl⟩ := List.mem_map.1 ht
  have := smallRow_in n r x hx
  omega
/-- What small makes is right, and small. -/
structure Sm (sc : List Int) (L : List (List Int)) : Prop where
  rt : Rt sc L
  s : sc.length ≤ 3
  l : L.length ≤ 12
theorem sm_small (sch : List Int) (L : List (List Int)) : Sm (smallS3 sch) (smallRows3 (smallS3 sch).length L) := by
  have h1 := smallS3_len sch
  have h2 := smallRows3_len (smallS3 sch).length L
  exact ⟨⟨right_small3 sch L, by omega, by omega, small3_in _ _⟩, h1, h2⟩
theorem foldl_take3 (l : List Int) (k : Nat) (h : k < l.length) (h3 : k < 3) : ((l.take 3).take (k + 1)).foldl (fun s v => uni1 s (md v 5)) [] = uni1 (((l.take 3).take k).foldl (fun s v => uni1 s (md v 5)) []) (md (rd l k) 5) := by
  rw [List.take_succ_eq_append_getElem (by simp; omega), List.foldl_append, rd_get l k h]
  simp
theorem unite1_is {W : World} {A B : Option Addr} {c d : Nat} {s : List Int} {m : Int} (h : Kd.C KI W A s.length s) (h' : Kd.C KI W B 1 [m]) (hl : s.length ≤ 900) :
    Calls Tryz.prog 64 #[.slice A s.length c, .slice B 1 d] W fun e w' => ∃ v, e = .returned v ∧ Kd.R KI 3 w' W.heap.size AnyB v (uni1 s m) ∧ Below W.heap.size W w' :=
  refunite_any (m := [m]) h h' (by omega) (by simp) rfl
set_option maxHeartbeats 4000000 in
set_option maxRecDepth 100000 in
theorem scheme_any {A : Option Addr} {c : Nat} {l : List Int} {w : World} (hr : Kd.C KI w A l.length l) :
    Calls Tryz.prog 33 #[.slice A l.length c] w fun e w' => ∃ v, e = .returned v ∧ Kd.R KI 3 w' w.heap.size AnyB v (smallS3 l) ∧ Below w.heap.size w w' := by
  have HR := Aside0.mk hr
  have hm : l.length ≤ 9223372036854775807 := hr.2.1
  have HI := Aside0.mk (show Kd.R KI 3 w w.heap.size AnyB (.slice none 0 0) [] from Kd.R_nil _ _ _ _ _)
  have HB0 := Aside0.mk (Below.refl w.heap.size w)
  clear hr
  go_enter Tryz.func33, Tryz.ntmps33
  go_wp2
  go_loopw [3, 4] (fun v i W => ∃ (k : Nat) (s : List Int), k ≤ l.length ∧ k ≤ 3 ∧ s.length ≤ k ∧ i = .int .i64 k ∧ Aside0 (((l.take 3).take k).foldl (fun s v => uni1 s (md v 5)) [] = s) ∧ Aside0 (Kd.R KI 3 W w.heap.size AnyB v s) ∧ Aside0 (Below w.heap.size w W)) (fun _ i _ => l.length - (intOf i).toNat)
  case atStart => exact ⟨0, [], by omega, by omega, by simp, rfl, ⟨rfl⟩, HI, HB0⟩
  case round =>
    clear HI HB0
    obtain ⟨k, s, hk, hk3, hsl, rfl, HS, HV, HB⟩ := hrel
    obtain ⟨As, cs, rfl, _, hC⟩ := Kd.R_reads HV.out
    have HC := Aside0.mk hC
    clear hC
    by_cases hlt : k < l.length
    · have hkl : (k : Int) < (l.length : Int) := by omega
      by_cases hlt3 : k < 3
      · have hk3' : (k : Int) < 3 := by omega
        obtain ⟨ad, rfl, hx⟩ := at_int' HR.out HB.out (k : Int) (by omega) hkl
        simp only [Int.toNat_natCast] at hx
        have HF := Aside0.mk (foldl_take3 l k hlt hlt3)
        obtain ⟨y, hy⟩ : ∃ y, md (rd l k) 5 = y := ⟨_, rfl⟩
        have hy' : Int.tmod (Go.bits .and .i64 (rd l k) 65535) 5 = y := hy
        rw [hy, HS.out] at HF
        clear hy
        have hul := uni1_len s y
        go_wp2_with (go_at_call 64; refine (unite1_is (Kd.C_below HC.out (below_alloc (Below.refl _ _) _)) (lit_ints1 _ _) (by omega)).mono ?_; rintro e w3 ⟨v3, rfl, hv3, hb3⟩; have HV3 := Aside0.mk hv3; have HB3 := Aside0.mk (below_then (below_alloc HB.out _) (by simpa using Nat.le_succ_of_le HB.out.size) hb3); clear hv3 hb3)
        go_roundw
        case measure => simp [intOf]; omega
        case rel => exact ⟨k + 1, uni1 s y, by omega, by omega, by omega, by go_num, HF, ⟨Kd.R_lower HV3.out (Nat.le_trans HB.out.size (by simp))⟩, HB3⟩
      · have hk3' : decide ((k : Int) < 3) = false := decide_eq_false (by omega)
        have hkn : decide (k < 3) = false := decide_eq_false (by omega)
        have HE := Aside0.mk (show smallS3 l = s from by rw [← HS.out, List.take_take, show min k 3 = 3 by omega]; rfl)
        clear hlt3
        go_wp2
        go_ret
        exact ⟨_, rfl, by rw [HE.out]; exact HV.out, HB.out⟩
    · have hkl : decide ((k : Int) < (l.length : Int)) = false := decide_eq_false (by omega)
      have HE := Aside0.mk (show smallS3 l = s from by rw [← HS.out, List.take_take, List.take_of_length_le (show l.length ≤ min k 3 by omega), smallS3, List.take_of_length_le (show l.length ≤ 3 by omega)])
      go_wp2
      go_ret
      exact ⟨_, rfl, by rw [HE.out]; exact HV.out, HB.out⟩
end Go.Proofs.YtlmkgghpaaadhaaGreatDoor.G

/- ref of the weigh laws, for plain weights, walked. -/
set_option linter.unusedVariables false
set_option linter.unusedSimpArgs false
namespace Go.Proofs.YtlmkgghpaaadhaaGreatDoor.G
open Go.RowKit Go.Proofs.YtlmkgghpaaadhaaGreatDoorW.PrintWords Go.Proofs.YtlmkgghpaaadhaaGreatDoorW.PrintLast Go.Proofs.YtlmkgghpaaadhaaGreatDoorW.PrintMore Go.Proofs.YtlmkgghpaaadhaaGreatDoor.PRefs
theorem made_ints (n : Nat) : madeCells #[.int .i64 0] n = ((List.replicate n (0 : Int)).map (Value.int .i64)).toArray := by
  refine Array.ext (by simp [madeCells]) fun i h1 h2 => ?_
  simp [madeCells, Nat.mod_one]
/-- A row of numbers in a block. -/
structure RowIs (W : World) (h : Nat) (xs : List Int) : Prop where
  blk : W.heap[h]? = some (.cells (xs.map (Value.int .i64)).toArray 3 (0, 0))
theorem RowIs.cell {W : World} {h : Nat} {xs : List Int} (hr : RowIs W h xs) (j : Nat) (hj : j < xs.length) : W.cell? ⟨h, j, none⟩ = some (.int .i64 (rd xs (j : Int))) := by
  rw [cell_of_row W h j _ _ _ hr.blk]; simp [hj, rd_get]
theorem RowIs.frozen {W : World} {h : Nat} {xs : List Int} (hr : RowIs W h xs) (j : Nat) : W.frozen? ⟨h, j, none⟩ = false := by simp [World.frozen?, hr.blk]
theorem RowIs.put {W : World} {h : Nat} {xs : List Int} (hr : RowIs W h xs) (j : Nat) (v : Int) : RowIs (W.setCell ⟨h, j, none⟩ (.int .i64 v)) h (xs.set j v) := by
  refine ⟨?_⟩
  rw [blk_set hr.blk j (.int .i64 v)]
  congr 2
  refine Array.ext (by simp) fun i h1 h2 => ?_
  simp [Array.getElem_setIfInBounds, List.getElem_set]
theorem RowIs.row {W : World} {h : Nat} {xs : List Int} (hr : RowIs W h xs) (base : Nat) (hb : base ≤ h) (hm : xs.length ≤ 1000000000) : Kd.R KI 3 W base AnyB (.slice (some ⟨h, 0, none⟩) xs.length xs.length) xs :=
  IntsAt.row (cur := (xs.map (Value.int .i64)).toArray) ⟨hr.blk, by simp, fun j hj => by simp [hj, rd_get xs j hj]⟩ hb hm
theorem take_len {α : Type} (l : List α) (k : Nat) (h : k ≤ l.length) : (l.take k).length = k := by rw [List.length_take]; omega
theorem map_snoc {α β : Type} (l : List α) (k : Nat) (h : k < l.length) (f : α → β) : (l.take (k + 1)).map f = (l.take k).map f ++ [f l[k]] := by rw [List.take_succ_eq_append_getElem h, List.map_append]; rfl
theorem rows_take (l : List (List Int)) (n j : Nat) (h : ¬ j < l.length ∨ ¬ j < 12) (hj : j ≤ l.length) (hj3 : j ≤ 12) : Pl.sortU ((l.take j).map (smallRow n)) = smallRows3 n l := by
  unfold smallRows3
  congr 2
  rcases h with h | h
  · rw [List.take_of_length_le (by omega), List.take_of_length_le (by omega)]
  · rw [show j = 12 by omega]
/-- A weight in a box of a call's own, behind wr. -/
structure RfSt (wr V : World) (v : Int) : Prop where
  bel : Below wr.heap.size wr V
  blk : V.heap[wr.heap.size]? = some (.cells #[.int .i64 v, .int .i64 0] 68 (0, 0))
theorem RfSt.put0 {wr V : World} {v : Int} (h : RfSt wr V v) (u : Int) : RfSt wr (V.setCell ⟨wr.heap.size, 0, none⟩ (.int .i64 u)) u :=
  ⟨h.bel.setCell (p := ⟨wr.heap.size, 0, none⟩) (Nat.le_refl _) _, blk2_s0 h.blk _⟩
theorem tmod_in (v most : Int) (h : 0 < most) : -most < Int.tmod v most ∧ Int.tmod v most < most := ⟨Int.lt_tmod_of_pos v h, Int.tmod_lt_of_pos v h⟩
def clampW (most v : Int) : Int := if v < -most ∨ most < v then Int.tmod v most else v
def refV (most : Int) (xA : List Int) (i : Nat) : Int := clampW most (if i < xA.length then rd xA (i : Int) else 1)
abbrev WtS := S68
abbrev KWt : Kd WtS := k68
def refW (most : Int) (xA : List Int) (n : Nat) : List WtS := (List.range n).map fun i => ⟨refV most xA i, 0⟩
theorem refW_len (most : Int) (xA : List Int) (n : Nat) : (refW most xA n).length = n := by simp [refW]
theorem refW_succ (most : Int) (xA : List Int) (k : Nat) : refW most xA (k + 1) = refW most xA k ++ [⟨refV most xA k, 0⟩] := by simp [refW, List.range_succ]
theorem infoWt : (Tryz.prog.info? 68).map (fun i => (i.zero, i.size, i.bytes)) = some (some (.agg #[.int .i64 0, .int .i64 0]), 2, 16) := by kernel_rfl
/-- A part in a box: two rows, and weights. -/
structure P4Bx (W : World) (g : Nat) (A : Option Addr) (c : Nat) (sc : List Int) (A' : Option Addr) (c' : Nat) (L : List (List Int)) (Aa : Option Addr) (ca : Nat) (xA : List Int) (Ab : Option Addr) (nb cb : Nat) : Prop where
  blk : W.heap[g]? = some (.cells #[.slice A sc.length c, .slice A' L.length c', .slice Aa xA.length ca, .slice Ab nb cb] 26 (0, 0))
  rd : RelRd W A c sc A' c' L
  a : Kd.C KI W Aa xA.length xA
theorem P4Bx.step {W W1 : World} {g : Nat} {A : Option Addr} {c : Nat} {sc : List Int} {A' : Option Addr} {c' : Nat} {L : List (List Int)} {Aa : Option Addr} {ca : Nat} {xA : List Int} {Ab : Option Addr} {nb cb : Nat} (h : P4Bx W g A c sc A' c' L Aa ca xA Ab nb cb) (hb : Below W.heap.size W W1) : P4Bx W1 g A c sc A' c' L Aa ca xA Ab nb cb :=
  ⟨(hb.block _ (Array.getElem?_eq_some_iff.1 h.blk).1).trans h.blk, h.rd.step hb, Kd.C_below h.a hb⟩
/-- What is made: two rows that stay, and a row of weights. -/
structure WOutD (w4 : World) (a b s : Value) (xs : List WtS) (W : World) : Prop where
  bel : Below w4.heap.size w4 W
  blk : W.heap[w4.heap.size]? = some (.cells #[a, b, s] 34 (0, 0))
  row : Kd.R KWt 68 W w4.heap.size (fun k => w4.heap.size < k) s xs
theorem WOutD.new (w4 : World) (a b : Value) : WOutD w4 a b (.slice none 0 0) [] (w4.alloc (.cells #[a, b, .slice none 0 0] 34)) :=
  ⟨below_alloc (Below.refl _ _) _, heap_alloc_new w4 _, Kd.R_nil _ _ _ _ _⟩
theorem WOutD.step {w4 W W1 : World} {a b s : Value} {xs : List WtS} (h : WOutD w4 a b s xs W) (hb : Below W.heap.size W W1) : WOutD w4 a b s xs W1 :=
  ⟨below_then h.bel h.bel.size hb, (hb.block _ (Array.getElem?_eq_some_iff.1 h.blk).1).trans h.blk, Kd.R_below h.row hb⟩
theorem WOutD.at2 {w4 W w1 : World} {a b s : Value} {xs : List WtS} (h : WOutD w4 a b s xs W) (hg : W.grownBy w1 s.ownBlock) : w1.heap[w4.heap.size]? = some (.cells #[a, b, s] 34 (0, 0)) :=
  (hg.block _ (Array.getElem?_eq_some_iff.1 h.blk).1 (fun e => by have := h.row.1 _ e.symm; omega)).trans h.blk
theorem WOutD.push {w4 W w1 : World} {a b s v1 : Value} {xs ys : List WtS} (h : WOutD w4 a b s xs W) (hg : W.grownBy w1 s.ownBlock) (hR : Kd.R KWt 68 w1 w4.heap.size (fun k => w4.heap.size < k) v1 ys) :
    WOutD w4 a b v1 ys (w1.setCell ⟨w4.heap.size, 2, none⟩ v1) :=
  ⟨(pw_below_grown h.bel _ h.bel.size hg (fun k e => Nat.le_of_lt (h.row.1 k e))).setCell (p := ⟨w4.heap.size, 2, none⟩) (Nat.le_refl _) v1, blk_set1 (h.at2 hg) 2 v1, Kd.R_far hR (p := ⟨w4.heap.size, 2, none⟩) (fun k hk => by show k ≠ w4.heap.size; omega) v1⟩
theorem app_d {ops : Array Oper} {rest : List Oper} {o : Oper} {a : Act} {Q : Exit → Act → World → Prop} {w W : World} (base : Nat) (ok : Nat → Prop) (hgd : o.guard = none) (s x : Operand) (ho : o.op = .call { callee := .builtin .append, args := #[s, x], argTypes := #[32, 32] })
    (v : Value) (xs : List WtS) (y : WtS) (hs : a.eval s = v) (hx : a.eval x = .slice (some ⟨W.heap.size, 0, none⟩) 1 1) (hok : ∀ k, W.heap.size ≤ k → ok k)
    (HO : Kd.R KWt 68 W base ok v xs) (HB : Below base w W) (hbase : base ≤ W.heap.size) (hl : xs.length < 4000000000)
    (h : ∀ v1 w1, Aside0 (Kd.R KWt 68 w1 base ok v1 (xs ++ [y])) → Aside0 (Below base w w1) → Aside0 (W.grownBy w1 v.ownBlock ∧ (v1.ownBlock = v.ownBlock ∨ ∃ b, v1.ownBlock = some b ∧ W.heap.size ≤ b)) → wpList Tryz.prog ops Q rest (a.put o.dst v1) w1) :
    wpList Tryz.prog ops Q (o :: rest) a (W.alloc (.cells #[.int .i64 y.f0, .int .i64 y.f1] 68)) :=
  Kd.R_append KWt base hgd s x 32 68 (.agg #[.int .i64 0, .int .i64 0]) 16 ho Tryz.underlying32 infoWt rfl (by decide) (by omega) v xs y [.int .i64 y.f0, .int .i64 y.f1] ok (fun _ => False) hs hx (k68_mkM _ _ _ y) (fun _ hk => hk.elim) hok
    HO HB hbase (by omega) (fun v1 w1 ho hb hg hat => h v1 w1 ⟨ho⟩ ⟨hb⟩ ⟨hg, hat⟩)

/-- A scheme of a block of its own, and rows that lead to later blocks alone. -/
def RefOwn (w : World) (base : Nat) (v : Value) (s : List Int) (u : Value) (R : List (List Int)) : Prop :=
  ∃ g, (base ≤ g ∧ g ≤ w.heap.size) ∧ Kd.R KI 3 w base (fun k => base ≤ k ∧ k < g) v s ∧ Kd.N KL 22 w g (fun k => g ≤ k) u R
theorem RefOwn.far {w : World} {base : Nat} {v : Value} {s : List Int} {u : Value} {R : List (List Int)} (h : RefOwn w base v s u R) {p : Addr} (hp : p.block < base) (x : Value) : RefOwn (w.setCell p x) base v s u R := by
  obtain ⟨g, hg, h0, h1⟩ := h
  exact ⟨g, ⟨hg.1, by simpa using hg.2⟩, Kd.R_far h0 (fun k hk => by have : base ≤ k := hk.1; omega) x, Kd.N_far h1 (fun k hk => by have : g ≤ k := hk; have := hg.1; omega) x⟩
theorem RefOwn.below {w w1 : World} {base : Nat} {v : Value} {s : List Int} {u : Value} {R : List (List Int)} (h : RefOwn w base v s u R) (hb : Below w.heap.size w w1) : RefOwn w1 base v s u R := by
  obtain ⟨g, hg, h0, h1⟩ := h
  exact ⟨g, ⟨hg.1, Nat.le_trans hg.2 hb.size⟩, Kd.R_below h0 hb, Kd.N_below h1 hb⟩
theorem RefOwn.lower {w : World} {base base' : Nat} {v : Value} {s : List Int} {u : Value} {R : List (List Int)} (h : RefOwn w base v s u R) (hb : base' ≤ base) : RefOwn w base' v s u R := by
  obtain ⟨g, hg, h0, h1⟩ := h
  exact ⟨g, ⟨Nat.le_trans hb hg.1, hg.2⟩, Kd.R_lower (Kd.R_mono h0 (fun k hk => ⟨Nat.le_trans hb hk.1, hk.2⟩)) hb, h1⟩
theorem RefOwn.rel {w : World} {base : Nat} {v : Value} {s : List Int} {u : Value} {R : List (List Int)} (h : RefOwn w base v s u R) : RelM w base (.agg #[v, u]) (s, R) := by
  obtain ⟨g, hg, h0, h1⟩ := h
  exact ⟨_, _, rfl, Kd.R_mono h0 (fun k hk => hk.1), Kd.N_mono (Kd.N_lower h1 hg.1) (fun k hk => Nat.le_trans hg.1 hk)⟩
section
variable {A : Option Addr} {c : Nat} {sc : List Int} {A' : Option Addr} {c' : Nat} {L : List (List Int)} {Aa : Option Addr} {ca : Nat} {xA : List Int} {Ab : Option Addr} {nb cb : Nat} {w : World}
set_option maxHeartbeats 8000000 in
set_option maxRecDepth 100000 in
theorem ref_own (h : RelRd w A c sc A' c' L) (ha : Kd.C KI w Aa xA.length xA) (most : Int) (hm0 : 0 < most) (hm1 : most ≤ 4611686018427387904) (hnb : nb ≤ 9223372036854775807) {s : List Int} (hs : smallS3 sc = s) {R : List (List Int)} (hR : smallRows3 s.length L = R) :
    Calls Tryz.prog 14 #[.agg #[.slice A sc.length c, .slice A' L.length c', .slice Aa xA.length ca, .slice Ab nb cb], .int .i64 most, .bool true] w fun e w' => ∃ A2 c2 A3 c3 A4 c4, e = .returned (.agg #[.slice A2 s.length c2, .slice A3 R.length c3, .slice A4 R.length c4]) ∧ RefOwn w' w.heap.size (.slice A2 s.length c2) s (.slice A3 R.length c3) R ∧ Kd.R KWt 68 w' w.heap.size (fun k => w.heap.size ≤ k) (.slice A4 R.length c4) (refW most xA R.length) ∧ Below w.heap.size w w' := by
  have HRR := Aside0.mk hR
  have hsl : s.length ≤ 3 := by rw [← hs]; exact smallS3_len _
  have hRl : R.length ≤ 12 := by rw [← hR]; exact smallRows3_len _ _
  have hLm : L.length ≤ 9223372036854775807 := h.rows.2.1
  have hAm : xA.length ≤ 9223372036854775807 := ha.2.1
  obtain ⟨W0, hW0⟩ : ∃ W0, (w.alloc (.cells #[.slice A sc.length c, .slice A' L.length c', .slice Aa xA.length ca, .slice Ab nb cb] 26)).alloc (.cells #[.slice none 0 0, .slice none 0 0, .slice none 0 0] 34) = W0 := ⟨_, rfl⟩
  have hb0 : Below w.heap.size w W0 := by rw [← hW0]; exact below_alloc (below_alloc (Below.refl _ _) _) _
  have hk0 : P4Bx W0 w.heap.size A c sc A' c' L Aa ca xA Ab nb cb := by rw [← hW0]; exact ⟨blk_two1 _ _ _, (h.step (below_alloc (Below.refl _ _) _)).step (below_alloc (Below.refl _ _) _), Kd.C_below (Kd.C_below ha (below_alloc (Below.refl _ _) _)) (below_alloc (Below.refl _ _) _)⟩
  have hz0 : W0.heap[w.heap.size + 1]? = some (.cells #[.slice none 0 0, .slice none 0 0, .slice none 0 0] 34 (0, 0)) := by rw [← hW0]; exact blk_two2 _ _ _
  have hs0 : W0.heap.size = w.heap.size + 2 := by rw [← hW0]; simp
  have H0 := Aside0.mk (And.intro hb0 (And.intro hk0 (And.intro hz0 hs0)))
  obtain ⟨q0, q1, q2, q3⟩ := blk4_c hk0.blk
  clear h ha hb0 hk0 hz0 hs0 hR
  go_enter Tryz.func14, Tryz.ntmps14
  go_upto_block 0 with (go_at_call 33; refine (scheme_any H0.out.2.1.rd.row).mono ?_; rw [hs]; rintro e w1 ⟨v1, rfl, hv1, hb1⟩; obtain ⟨A1, c1, rfl, _, hC1⟩ := Kd.R_reads hv1; have HV1 := Aside0.mk (And.intro hv1 hb1); clear hv1 hb1 hC1)
  clear hW0 q0 q1 q2 q3
  rename World => wa
  have HBX := Aside0.mk (H0.out.2.1.step HV1.out.2)
  go_cut [8] (fun v W => ∃ (A9 : Option Addr) (c9 : Nat) (X : List (List Int)), v = .slice A9 X.length c9 ∧ Aside0 (Kd.C KL W A9 X.length X ∧ X.length ≤ 12 ∧ (∀ y ∈ X, y.length ≤ 1000000000000) ∧ Pl.sortU X = R) ∧ Aside0 (Below wa.heap.size wa W))
  case first =>
   go_wp2_with fail
   go_loopw [8, 9] (fun v i W => ∃ (j : Nat), j ≤ L.length ∧ j ≤ 12 ∧ i = .int .i64 j ∧ Aside0 (Kd.N KL 22 W wa.heap.size (fun q => wa.heap.size ≤ q) v ((L.take j).map (smallRow s.length)) ∧ Below wa.heap.size wa W)) (fun _ i _ => 12 - (intOf i).toNat)
   case atStart => exact ⟨0, Nat.zero_le _, by omega, rfl, ⟨Kd.N_nil _ _ _ _ _, Below.refl _ _⟩⟩
   case round =>
     obtain ⟨jb, hjb, hjb12, rfl, HB⟩ := hrel
     have HBXb := Aside0.mk (HBX.out.step HB.out.2)
     obtain ⟨q0, q1, q2, q3⟩ := blk4_c HBXb.out.blk
     obtain ⟨A9, c9, rfl, hc9, hC9⟩ := Kd.N_reads HB.out.1
     have HC9 := Aside0.mk (And.intro hc9 hC9)
     clear hc9 hC9
     have hml : ((L.take jb).map (smallRow s.length)).length = jb := by rw [List.length_map, take_len _ _ hjb]
     have HML := Aside0.mk hml
     clear hml
     by_cases hgoB : jb < L.length ∧ jb < 12
     · obtain ⟨hjl, hjl12⟩ := hgoB
       obtain ⟨ad3, By, cy, rfl, hy, hly, hcy⟩ := at_row HBX.out.rd.rows HB.out.2 jb hjl
       have hjl' : (jb : Int) < (L.length : Int) := by omega
       have hjl12' : (jb : Int) < 12 := by omega
       have hsn : (L.take (jb + 1)).map (smallRow s.length) = (L.take jb).map (smallRow s.length) ++ [smallRow s.length (L.getD jb [])] := by rw [map_snoc _ _ hjl, getD_get _ _ hjl]
       obtain ⟨y, hye⟩ : ∃ y, y = L.getD jb [] := ⟨_, rfl⟩
       rw [← hye] at hy hcy hsn
       have HSB := Aside0.mk (And.intro hsn (And.intro hcy hy))
       clear hsn hcy hye
       have hmk := fun W => run_make_row' (P := Tryz.prog) 22 3 (.int .i64 0) 8 Tryz.underlying22 infoInt rfl .i64 .i64 s.length (by omega) (by omega) W
       rename World => wb
       go_wp2_with fail
       clear hmk q0 q1 q2 q3 hy
       have hC0 : RowIs (wb.alloc (.cells (madeCells #[.int .i64 0] s.length) 3)) wb.heap.size (rowTo s.length y 0) := ⟨by rw [rowTo_zero, ← made_ints]; exact heap_alloc_new wb _⟩
       have HC0 := Aside0.mk (And.intro hC0 (below_alloc (Below.refl wb.heap.size wb) (.cells (madeCells #[.int .i64 0] s.length) 3)))
       clear hC0
       generalize wb.alloc (.cells (madeCells #[.int .i64 0] s.length) 3) = W3 at HC0 ⊢
       go_loopw [11] (fun i W => ∃ (q : Nat), q ≤ s.length ∧ i = .int .i64 q ∧ Aside0 (RowIs W wb.heap.size (rowTo s.length y q) ∧ Below wb.heap.size wb W)) (fun i _ => s.length - (intOf i).toNat)
       case atStart => exact ⟨0, Nat.zero_le _, rfl, HC0⟩
       case round =>
         clear HC0
         obtain ⟨q, hq, rfl, HC⟩ := hrel
         obtain ⟨q0, q1, q2, q3⟩ := blk4_c (HBXb.out.step HC.out.2).blk
         have hy := (HC.out.2.cell (World.block_lt_of_cell? wb _ HSB.out.2.2)).trans HSB.out.2.2
         by_cases hgoC : q < s.length ∧ q < y.length
         · obtain ⟨hqn, hqy⟩ := hgoC
           obtain ⟨ad4, rfl, hz⟩ := at_int' HSB.out.2.1 HC.out.2 (q : Int) (by omega) (by omega)
           simp only [Int.toNat_natCast] at hz
           have hqn' : (q : Int) < (s.length : Int) := by omega
           have hqy' : (q : Int) < (y.length : Int) := by omega
           have hcell := HC.out.1.cell q (by rw [rowTo_len]; exact hqn)
           have hfr := HC.out.1.frozen q
           have HP := Aside0.mk (And.intro (HC.out.1.put q (md (rd y (q : Int)) 3)) (HC.out.2.setCell (p := ⟨wb.heap.size, q, none⟩) (Nat.le_refl _) (.int .i64 (md (rd y (q : Int)) 3))))
           go_wp2_with fail
           go_roundw
           case measure => simp [intOf]; omega
           case rel => exact ⟨q + 1, by omega, by go_num, ⟨by rw [← rowTo_set s.length y q hqn hqy]; exact HP.out.1, HP.out.2⟩⟩
         · have hrow : rowTo s.length y q = smallRow s.length y := rowTo_end _ _ _ (by omega)
           have hR := HC.out.1.row wb.heap.size (Nat.le_refl _) (by rw [rowTo_len]; omega)
           rw [hrow, smallRow_len] at hR
           have HR7 := Aside0.mk (And.intro hR HC.out.2)
           have hsplitC : ¬ (q : Int) < (s.length : Int) ∨ ((q : Int) < (s.length : Int) ∧ ¬ (q : Int) < (y.length : Int)) := by omega
           have HLB := Aside0.mk (And.intro (Kd.N_below HB.out.1 HC.out.2) (Kd.N_lt HB.out.1))
           clear hrow hR HC hgoC
           rcases hsplitC with hq' | ⟨hq1, hq2⟩
           all_goals
             go_wp2_with (at_builtin; refine Kd.N_append KL (w0 := wa) wa.heap.size rfl (.tmp 61) (.tmp 63) 23 22 (.slice none 0 0) 24 rfl Tryz.underlying23 infoInts rfl (by decide) (by omega) _ ((L.take jb).map (smallRow s.length)) (smallRow s.length y) [.slice (some ⟨wb.heap.size, 0, none⟩) s.length s.length] (fun q => wa.heap.size ≤ q) (fun q => wb.heap.size ≤ q ∧ q < wr.heap.size) rfl rfl (FK_rowB HR7.out.1) (fun q hq => ⟨Nat.le_trans HB.out.2.size hq.1, fun e => by have := HLB.out.2 q e.symm; have := hq.1; omega⟩) (fun q hq => Nat.le_trans HB.out.2.size (Nat.le_trans HR7.out.2.size hq)) HLB.out.1 (HB.out.2.trans (HR7.out.2.mono HB.out.2.size)) (Nat.le_trans HB.out.2.size HR7.out.2.size) (by rw [HML.out]; omega) ?_; intro v5 w5 hv5 hb5 hg5 ha5; have HV5 := Aside0.mk (And.intro hv5 hb5); clear hv5 hb5 hg5 ha5)
             go_roundw
             case measure => simp [intOf]; omega
             case rel => exact ⟨jb + 1, by omega, by omega, by go_num, ⟨by rw [HSB.out.1]; exact HV5.out.1, HV5.out.2⟩⟩
     · have hrows := rows_take L s.length jb (by omega) hjb hjb12
       rw [HRR.out] at hrows
       have HRW := Aside0.mk hrows
       have hsplitB : ¬ (jb : Int) < (L.length : Int) ∨ ((jb : Int) < (L.length : Int) ∧ ¬ (jb : Int) < 12) := by omega
       clear hrows hgoB
       rename World => wz
       have hXl : ∀ y ∈ (L.take jb).map (smallRow s.length), y.length ≤ 1000000000000 := fun y hy => by
         obtain ⟨t, _, rfl⟩ := List.mem_map.1 hy
         rw [smallRow_len]; omega
       have hXn : ((L.take jb).map (smallRow s.length)).length ≤ 12 := by rw [HML.out]; exact hjb12
       generalize (L.take jb).map (smallRow s.length) = X at *
       have HXX := Aside0.mk (And.intro hXl hXn)
       clear hXl hXn
       have HOUT := Aside0.mk (show Kd.C KL wz A9 X.length X ∧ X.length ≤ 12 ∧ (∀ y ∈ X, y.length ≤ 1000000000000) ∧ Pl.sortU X = R from ⟨HC9.out.2, HXX.out.2, HXX.out.1, HRW.out⟩)
       rcases hsplitB with hj' | ⟨hj1, hj2⟩
       all_goals
         go_wp2_with fail
         go_meet
         case rel => exact ⟨A9, c9, X, rfl, HOUT, ⟨HB.out.2⟩⟩
  case rest =>
   obtain ⟨A9, c9, X, rfl, HX9, HBz⟩ := hcut
   rename World => wz
   have HBXb := Aside0.mk (HBX.out.step HBz.out)
   go_upto_region 13 with (go_at_call 34; refine (refsort_any HX9.out.1 (by have := HX9.out.2.1; omega) HX9.out.2.2.1 HX9.out.2.2.2).mono ?_; rintro e wc ⟨v3, rfl, hv3, hb3⟩; obtain ⟨A3, c3, rfl⟩ := Kd.N_slice hv3; have HC := Aside0.mk (And.intro hv3 hb3); clear hv3 hb3)
   have HWO := Aside0.mk (WOutD.new wc (.slice A1 s.length c1) (.slice A3 R.length c3))
   have HBXc := Aside0.mk (HBXb.out.step HC.out.2)
   generalize wc.alloc (.cells #[.slice A1 s.length c1, .slice A3 R.length c3, .slice none 0 0] 34) = W5 at HWO ⊢
   obtain ⟨g, hg⟩ : ∃ g, wc.heap.size = g := ⟨_, rfl⟩
   have HG := Aside0.mk hg
   rw [hg]
   clear hg
   have hn1 : IntKind.i64.wrap (-most) = -most := Go.IntWalk.i64_in _ (by omega)
   have hn2 : wrap64 (-most) = -most := Go.IntWalk.wrap64_in _ (by omega)
   have hm2 : ¬ ((0 : Int) < -most) := by omega
   have hm3 : ¬ (most < 0) := by omega
   have hm4 : most ≠ 0 := by omega
   go_wp2_with fail
   go_loopw [13] (fun i W => ∃ (k : Nat) (sv : Value), k ≤ R.length ∧ i = .int .i64 k ∧ Aside0 (WOutD wc (.slice A1 s.length c1) (.slice A3 R.length c3) sv (refW most xA k) W)) (fun i _ => R.length - (intOf i).toNat)
   case atStart => exact ⟨0, _, Nat.zero_le _, rfl, HWO⟩
   case round =>
     clear HWO
     obtain ⟨k, sv, hk, rfl, HO⟩ := hrel
     obtain ⟨As, cs, rfl⟩ := Kd.R_slice HO.out.row
     have hbo := HO.out.blk
     rw [HG.out] at hbo
     obtain ⟨s0, s1, s2⟩ := blk3_c hbo
     clear hbo
     have HBXr := Aside0.mk (HBXc.out.step HO.out.bel)
     rename World => wr
     by_cases hlt : k < R.length
     · have hkl : (k : Int) < (R.length : Int) := by omega
       obtain ⟨q0, q1, q2, q3⟩ := blk4_c (HBXr.out.step (below_alloc (Below.refl wr.heap.size wr) (.cells #[.int .i64 1, .int .i64 0] 68))).blk
       go_upto_if 83 with fail
       clear s0 s1 s2
       have HV := Aside0.mk (show RfSt wr (wr.alloc (.cells #[.int .i64 1, .int .i64 0] 68)) 1 from ⟨below_alloc (Below.refl _ _) _, heap_alloc_new wr _⟩)
       generalize wr.alloc (.cells #[.int .i64 1, .int .i64 0] 68) = V1 at HV q0 q1 q2 q3 ⊢
       obtain ⟨v0, hv0⟩ : ∃ v0, (if k < xA.length then rd xA (k : Int) else 1) = v0 := ⟨_, rfl⟩
       have HV0 := Aside0.mk hv0
       have HVC := Aside0.mk (show refV most xA k = clampW most v0 from by rw [refV, hv0])
       clear hv0
       go_cut [] (fun W => Aside0 (RfSt wr W v0))
       case first =>
         rcases Nat.lt_or_ge k xA.length with hka | hkz
         · have hkai : (k : Int) < (xA.length : Int) := by omega
           obtain ⟨ad, rfl, hx⟩ := at_int' HBXr.out.a HV.out.bel (k : Int) (by omega) hkai
           simp only [Int.toNat_natCast] at hx
           have z0 := blk2_c0 HV.out.blk
           have z1 := blk_fr (i := 0) HV.out.blk
           have HV2 := Aside0.mk (show RfSt wr (V1.setCell ⟨wr.heap.size, 0, none⟩ (.int .i64 (rd xA (k : Int)))) v0 from by rw [← HV0.out, if_pos hka]; exact HV.out.put0 (rd xA (k : Int)))
           go_wp2_with fail
           go_meet
           case rel => exact HV2
         · have hkai : ¬ (k : Int) < (xA.length : Int) := by omega
           have hkan : ¬ k < xA.length := by omega
           have HV2 := Aside0.mk (show RfSt wr V1 v0 from by rw [← HV0.out, if_neg (by omega)]; exact HV.out)
           clear hkz
           go_wp2_with fail
           go_meet
           case rel => exact HV2
       case rest =>
         clear HV q0 q1 q2 q3
         have HV2 := hcut
         clear hcut
         rename World => V2
         obtain ⟨q0, q1, q2, q3⟩ := blk4_c (HBXr.out.step HV2.out.bel).blk
         have z0 := blk2_c0 HV2.out.blk
         have z1 := blk_fr (i := 0) HV2.out.blk
         go_upto_region 19 with fail
         go_cut [98] (fun v W => v = .bool false ∧ W = V2)
         case first =>
           by_cases hkb : (k : Int) < (nb : Int)
           · go_wp2_with fail
             go_meet
             case rel => exact ⟨rfl, rfl⟩
           · go_wp2_with fail
             go_meet
             case rel => exact ⟨rfl, rfl⟩
         case rest =>
           obtain ⟨rfl, rfl⟩ := hcut
           rename World => V2
           go_upto_region 21 with fail
           clear q0 q1 q2 q3
           have ht := tmod_in v0 most hm0
           have ht1 : IntKind.i64.wrap (Int.tmod v0 most) = Int.tmod v0 most := Go.IntWalk.i64_in _ (by omega)
           have ht2 : wrap64 (Int.tmod v0 most) = Int.tmod v0 most := Go.IntWalk.wrap64_in _ (by omega)
           have HS := Aside0.mk (HV2.out.put0 (Int.tmod v0 most))
           clear ht
           rcases (show v0 < -most ∨ most < v0 ∨ (¬ v0 < -most ∧ ¬ most < v0) from by omega) with hc1 | hc2 | ⟨hc3, hc4⟩
           all_goals first
           | (have hgd := hc1; clear hgd
              have HCW := Aside0.mk (show clampW most v0 = Int.tmod v0 most from if_pos (.inl hc1))
              go_upto_region 23 with fail
              have HV := Aside0.mk (show RfSt wr (V2.setCell ⟨wr.heap.size, 0, none⟩ (.int .i64 (Int.tmod v0 most))) (clampW most v0) from by rw [HCW.out]; exact HS.out)
              clear z0 z1 HS HV2 hc1
              generalize V2.setCell ⟨wr.heap.size, 0, none⟩ (.int .i64 (Int.tmod v0 most)) = V4 at HV ⊢)
           | (have hgd := hc2; clear hgd
              have hc5 : ¬ v0 < -most := by omega
              have HCW := Aside0.mk (show clampW most v0 = Int.tmod v0 most from if_pos (.inr hc2))
              have HE2 := Aside0.mk (show Int.tmod v0 most = v0 % most from Int.tmod_eq_emod_of_nonneg (by omega))
              go_upto_region 23 with fail
              have HV := Aside0.mk (show RfSt wr (V2.setCell ⟨wr.heap.size, 0, none⟩ (.int .i64 (v0 % most))) (clampW most v0) from by rw [HCW.out, ← HE2.out]; exact HS.out)
              clear z0 z1 HS HV2 hc2 HE2
              generalize V2.setCell ⟨wr.heap.size, 0, none⟩ (.int .i64 (v0 % most)) = V4 at HV ⊢)
           | (have hgd := hc3; clear hgd
              have HCW := Aside0.mk (show clampW most v0 = v0 from if_neg (fun h => h.elim hc3 hc4))
              go_upto_region 23 with fail
              have HV := Aside0.mk (show RfSt wr V2 (clampW most v0) from by rw [HCW.out]; exact HV2.out)
              clear z0 z1 HS HV2 hc3
              rename World => V4)
           all_goals
             rw [← HVC.out] at HV
             obtain ⟨y, hy⟩ : ∃ y, refV most xA k = y := ⟨_, rfl⟩
             rw [hy] at HV
             have HY := Aside0.mk hy
             clear hy
             have z0 := blk2_c0 HV.out.blk
             have z1 := blk2_c1 HV.out.blk
             have HO4 := Aside0.mk (HO.out.step HV.out.bel)
             have hbo := HO4.out.blk
             rw [HG.out] at hbo
             have s2 := (blk3_c hbo).2.2
             clear hbo
             go_wp2_with (at_builtin; refine app_d (w := V4) wc.heap.size (fun k => wc.heap.size < k) rfl (.tmp 138) (.tmp 140) rfl (.slice As (refW most xA k).length cs) (refW most xA k) ⟨y, 0⟩ rfl rfl (fun k hk => by have := (Array.getElem?_eq_some_iff.1 HO4.out.blk).1; omega) HO4.out.row (Below.refl _ _) HO4.out.bel.size (by rw [refW_len]; omega) ?_; intro v1 w8 HV8 HB8 HG8; obtain ⟨A9', c9', rfl⟩ := Kd.R_slice HV8.out; have hbk := HO4.out.at2 HG8.out.1; rw [HG.out] at hbk; have p8 := (blk3_c hbk).2.2; have p9 := blk_fr (i := 2) hbk; have HP8 := Aside0.mk (HO4.out.push HG8.out.1 HV8.out); clear hbk)
             go_roundw
             case rel =>
               refine ⟨k + 1, .slice A9' ((refW most xA k).length + 1) c9', by omega, by go_num, ⟨?_⟩⟩
               rw [refW_succ, HY.out, ← HG.out]
               have h := HP8.out
               rw [List.length_append] at h
               exact h
             case measure => simp [intOf]; omega
     · have hke : k = R.length := by omega
       subst hke
       have hz := (((HBXb.out.step HC.out.2).step HO.out.bel)).blk
       clear hz
       have hBz := below_then (below_then (below_then (below_then H0.out.1 H0.out.1.size HV1.out.2) (Nat.le_trans H0.out.1.size HV1.out.2.size) HBz.out) (Nat.le_trans (Nat.le_trans H0.out.1.size HV1.out.2.size) HBz.out.size) HC.out.2) (Nat.le_trans (Nat.le_trans (Nat.le_trans H0.out.1.size HV1.out.2.size) HBz.out.size) HC.out.2.size) HO.out.bel
       have HBZ := Aside0.mk hBz
       clear hBz
       have hB0 := below_then (below_then (below_then HV1.out.2 HV1.out.2.size HBz.out) (Nat.le_trans HV1.out.2.size HBz.out.size) HC.out.2) (Nat.le_trans (Nat.le_trans HV1.out.2.size HBz.out.size) HC.out.2.size) HO.out.bel
       have hlo : w.heap.size + 1 < W0.heap.size := by have := H0.out.2.2.2; omega
       have hk9 := (hB0.block (w.heap.size + 1) hlo).trans H0.out.2.2.1
       have HLO := Aside0.mk (And.intro hlo (And.intro HV1.out.2.size (And.intro HBz.out.size HC.out.2.size)))
       obtain ⟨⟨q0, q1⟩, ⟨q2, q3⟩, ⟨q4, q5⟩⟩ := blk3_put hk9 (.slice A1 s.length c1) (.slice A3 R.length c3) (.slice As (refW most xA R.length).length cs)
       have hz3 := blk3_three hk9 (.slice A1 s.length c1) (.slice A3 R.length c3) (.slice As (refW most xA R.length).length cs)
       obtain ⟨r0, r1, r2⟩ := blk3_c hz3
       have hRM := (Kd.R_below (Kd.R_below (Kd.R_below (Kd.R_mono (ok' := fun k => W0.heap.size ≤ k ∧ k < wa.heap.size) (Kd.R_bound HV1.out.1) (fun k hk => ⟨hk.2.1, hk.2.2.1⟩)) HBz.out) HC.out.2) HO.out.bel)
       have hNM := Kd.N_below HC.out.1 HO.out.bel
       have HFIN := Aside0.mk (And.intro hRM (And.intro hNM HO.out.row))
       clear hk9 hz3 hB0 hlo hRM hNM
       go_wp2
       refine bodyPost_ret (v := .agg #[.slice A1 s.length c1, .slice A3 R.length c3, .slice As (refW most xA R.length).length cs]) (by simp [results, Tryz.results14, go_sem, r0, r1, r2]) rfl ?_
       have hlo := HLO.out.1
       have h1 := HLO.out.2.1
       have h2 := HLO.out.2.2.1
       have h3 := HLO.out.2.2.2
       have hRel : RefOwn wr W0.heap.size (.slice A1 s.length c1) s (.slice A3 R.length c3) R := ⟨wa.heap.size, ⟨h1, by have h4 := HO.out.bel.size; omega⟩, HFIN.out.1, Kd.N_mono (Kd.N_lower HFIN.out.2.1 (by omega)) (fun k hk => by show wa.heap.size ≤ k; omega)⟩
       have hM5 := ((hRel.far (p := ⟨w.heap.size + 1, 0, none⟩) hlo (.slice A1 s.length c1)).far (p := ⟨w.heap.size + 1, 1, none⟩) hlo (.slice A3 R.length c3)).far (p := ⟨w.heap.size + 1, 2, none⟩) hlo (.slice As (refW most xA R.length).length cs)
       have hrow : ∀ {V : World} (k : Nat) (u : Value), Kd.R KWt 68 V wc.heap.size (fun k => wc.heap.size < k) (.slice As (refW most xA R.length).length cs) (refW most xA R.length) → Kd.R KWt 68 (V.setCell ⟨w.heap.size + 1, k, none⟩ u) wc.heap.size (fun k => wc.heap.size < k) (.slice As (refW most xA R.length).length cs) (refW most xA R.length) := fun k u h => Kd.R_far h (p := ⟨w.heap.size + 1, k, none⟩) (fun q hq => by show q ≠ w.heap.size + 1; omega) u
       have hR5 := hrow 2 (.slice As (refW most xA R.length).length cs) (hrow 1 (.slice A3 R.length c3) (hrow 0 (.slice A1 s.length c1) HFIN.out.2.2))
       have hR6 := Kd.R_lower (Kd.R_mono hR5 (fun k hk => show w.heap.size ≤ k by omega)) (show w.heap.size ≤ wc.heap.size by omega)
       refine ⟨A1, c1, A3, c3, As, cs, by rw [refW_len], hM5.lower (by omega), ?_, ((HBZ.out.setCell (p := ⟨w.heap.size + 1, 0, none⟩) (Nat.le_succ _) _).setCell (p := ⟨w.heap.size + 1, 1, none⟩) (Nat.le_succ _) _).setCell (p := ⟨w.heap.size + 1, 2, none⟩) (Nat.le_succ _) _⟩
       have e := refW_len most xA R.length
       have hR7 := hR6
       generalize hq : (refW most xA R.length).length = q at hR7 ⊢
       rw [hq] at e
       subst e
       exact hR7
theorem ref_any (h : RelRd w A c sc A' c' L) (ha : Kd.C KI w Aa xA.length xA) (most : Int) (hm0 : 0 < most) (hm1 : most ≤ 4611686018427387904) (hnb : nb ≤ 9223372036854775807) {s : List Int} (hs : smallS3 sc = s) {R : List (List Int)} (hR : smallRows3 s.length L = R) :
    Calls Tryz.prog 14 #[.agg #[.slice A sc.length c, .slice A' L.length c', .slice Aa xA.length ca, .slice Ab nb cb], .int .i64 most, .bool true] w fun e w' => ∃ A2 c2 A3 c3 A4 c4, e = .returned (.agg #[.slice A2 s.length c2, .slice A3 R.length c3, .slice A4 R.length c4]) ∧ RelM w' w.heap.size (.agg #[.slice A2 s.length c2, .slice A3 R.length c3]) (s, R) ∧ Kd.R KWt 68 w' w.heap.size (fun k => w.heap.size ≤ k) (.slice A4 R.length c4) (refW most xA R.length) ∧ Below w.heap.size w w' := by
  refine (ref_own h ha most hm0 hm1 hnb hs hR).mono ?_
  rintro e w' ⟨A2, c2, A3, c3, A4, c4, rfl, hM, hD, hb⟩
  exact ⟨A2, c2, A3, c3, A4, c4, rfl, hM.rel, hD, hb⟩
end
end Go.Proofs.YtlmkgghpaaadhaaGreatDoor.G

/- number of the weigh laws, walked. -/
set_option linter.unusedVariables false
set_option linter.unusedSimpArgs false
namespace Go.Proofs.YtlmkgghpaaadhaaGreatDoor.G
open Go.RowKit Go.Proofs.YtlmkgghpaaadhaaGreatDoorW.PrintWords Go.Proofs.YtlmkgghpaaadhaaGreatDoorW.PrintLast Go.Proofs.YtlmkgghpaaadhaaGreatDoorW.PrintMore Go.Proofs.YtlmkgghpaaadhaaGreatDoor.PRefs
section
variable {A : Option Addr} {c n : Nat} {A' : Option Addr} {c' n' : Nat} {A4 : Option Addr} {c4 : Nat} {D : List WtS} {w : World}
set_option maxHeartbeats 8000000 in
set_option maxRecDepth 100000 in
theorem number_any (h : Kd.C KWt w A4 D.length D) (hm : D.length ≤ 1000000) {M' : List Int} (hM' : D.map (fun x => x.f0) = M') :
    Calls Tryz.prog 16 #[.agg #[.slice A n c, .slice A' n' c', .slice A4 D.length c4]] w fun e w' => ∃ Aw cw, e = .returned (.agg #[.slice A n c, .slice A' n' c', .slice Aw M'.length cw]) ∧ Kd.R KI 2 w' w.heap.size (fun k => w.heap.size ≤ k) (.slice Aw M'.length cw) M' ∧ Below w.heap.size w w' := by
  have HR := Aside0.mk h
  have HMM := Aside0.mk hM'
  obtain ⟨W0, hW0⟩ : ∃ W0, (w.alloc (.cells #[.slice A n c, .slice A' n' c', .slice A4 D.length c4] 34)).alloc (.cells #[.slice none 0 0, .slice none 0 0, .slice none 0 0] 37) = W0 := ⟨_, rfl⟩
  have hb0 : Below w.heap.size w W0 := by rw [← hW0]; exact below_alloc (below_alloc (Below.refl _ _) _) _
  have hk0 : W0.heap[w.heap.size]? = some (.cells #[.slice A n c, .slice A' n' c', .slice A4 D.length c4] 34 (0, 0)) := by rw [← hW0]; exact blk_two1 _ _ _
  have hz0 : W0.heap[w.heap.size + 1]? = some (.cells #[.slice none 0 0, .slice none 0 0, .slice none 0 0] 37 (0, 0)) := by rw [← hW0]; exact blk_two2 _ _ _
  have hs0 : W0.heap.size = w.heap.size + 2 := by rw [← hW0]; simp
  have H0 := Aside0.mk (And.intro hb0 (And.intro hk0 (And.intro hz0 hs0)))
  have HWO := Aside0.mk (WOut.new W0 (.slice A n c) (.slice A' n' c'))
  obtain ⟨q0, q1, q2⟩ := blk3_c hk0
  clear h hM' hb0 hk0 hz0 hs0
  go_enter Tryz.func16, Tryz.ntmps16
  go_wp2_with fail
  clear hW0 q0 q1 q2
  generalize W0.alloc (.cells #[.slice A n c, .slice A' n' c', .slice none 0 0] 37) = W5 at HWO ⊢
  obtain ⟨g, hg⟩ : ∃ g, W0.heap.size = g := ⟨_, rfl⟩
  have HG := Aside0.mk hg
  rw [hg]
  clear hg
  go_loopw [4] (fun i W => ∃ (k : Nat) (s : Value) (M : List Int), k ≤ D.length ∧ i = .int .i64 k ∧ Aside0 ((D.take k).map (fun x => x.f0) = M) ∧ Aside0 (WOut W0 (.slice A n c) (.slice A' n' c') s M W)) (fun i _ => D.length - (intOf i).toNat)
  case atStart => exact ⟨0, _, [], Nat.zero_le _, rfl, ⟨rfl⟩, HWO⟩
  case round =>
    clear HWO
    obtain ⟨k, s, M, hk, rfl, HML, HO⟩ := hrel
    obtain ⟨As, cs, rfl⟩ := Kd.R_slice HO.out.row
    have hbo := HO.out.blk
    rw [HG.out] at hbo
    obtain ⟨s0, s1, s2⟩ := blk3_c hbo
    clear hbo
    obtain ⟨q0, q1, q2⟩ := blk3_c ((HO.out.bel.block w.heap.size (by have := H0.out.2.2.2; omega)).trans H0.out.2.1)
    by_cases hlt : k < D.length
    · have hkl : (k : Int) < (D.length : Int) := by omega
      obtain ⟨ad, rfl, hx, _⟩ := at_T68 HR.out (k : Int) (by omega) hkl
      simp only [Int.toNat_natCast] at hx
      have hx0 := World.block_lt_of_cell? w _ hx
      have HH := Aside0.mk (show w.heap.size < W0.heap.size ∧ (ad.add (k * 2)).block < W0.heap.size from ⟨by have := H0.out.2.2.2; omega, Nat.lt_of_lt_of_le hx0 H0.out.1.size⟩)
      replace hx := (HO.out.bel.cell HH.out.2).trans ((H0.out.1.cell hx0).trans hx)
      have HTK := Aside0.mk (show (D.take (k + 1)).map (fun x => x.f0) = M ++ [(rd_T68 D (k : Int)).f0] from by
        rw [map_snoc _ _ hlt, HML.out]
        unfold rd_T68
        rw [Int.toNat_natCast, List.getD_eq_getElem?_getD, List.getElem?_eq_getElem hlt]; rfl)
      have HLM := Aside0.mk (show M.length ≤ k from by rw [← HML.out, List.length_map, List.length_take]; omega)
      obtain ⟨y, hy⟩ : ∃ y, (rd_T68 D (k : Int)).f0 = y := ⟨_, rfl⟩
      rw [hy] at hx HTK
      clear hy hx0
      have e0 := ((below_drew (Below.refl wr.heap.size wr)).cell (World.block_lt_of_cell? _ _ s2)).trans s2
      have e1 := ((below_drew (Below.refl wr.heap.size wr)).cell (World.block_lt_of_cell? _ _ q2)).trans q2
      have e2 := ((below_drew (Below.refl wr.heap.size wr)).cell (World.block_lt_of_cell? _ _ hx)).trans hx
      have HO17 := Aside0.mk (HO.out.step (below_drew (Below.refl wr.heap.size wr)))
      go_upto_region 5 with fail
      clear s0 s1 s2 q0 q1 q2 hx
      refine start_ (n := 12) (S := fun w' => w'.cell? ⟨g, 2, none⟩ = some (.slice As M.length cs) ∧ w'.cell? ⟨w.heap.size, 2, none⟩ = some (.slice (some ad) D.length c4) ∧ w'.cell? (ad.add (k * 2)) = some (.int .i64 y)) (ds := [11]) #[false, false, false, false, false, false, false, false, false, false, false, false] (by kernel_rfl) rfl rfl ⟨e0, e1, e2⟩ (fun hHeld => ?_)
      generalize hD : wr.drew = w17 at *
      clear hD
      have hb5 := below_alloc (Below.refl w17.heap.size w17) (.cells #[.int .i64 y] 2)
      have h0 := World.block_lt_of_cell? w17 _ e0
      have h1 := World.block_lt_of_cell? w17 _ e1
      have h2 := World.block_lt_of_cell? w17 _ e2
      refine pure_ (i := 0) (N := some 15) (v := ?_) (a' := ?_) #[true, false, false, false, false, false, false, false, false, false, false, false] rfl rfl (by kernel_rfl) (fun _ _ _ h => h) (Or.inl ⟨by rfl, ?_⟩) ?_ ?_
      rotate_left
      · intro w'
        go_simp
        with_reducible rfl
      rotate_left
      · simp only [Act.put, List.setIfInBounds_toArray, List.set_cons_zero, List.set_cons_succ, i64_w, i32_w]
        rfl
      refine pure_ (i := 2) (N := some 17) (v := ?_) (a' := ?_) #[true, false, true, false, false, false, false, false, false, false, false, false] rfl rfl (by kernel_rfl) (fun _ _ _ h => h) (Or.inl ⟨by rfl, ?_⟩) ?_ ?_
      rotate_left
      · intro w'
        go_simp
        with_reducible rfl
      rotate_left
      · simp only [Act.put, List.setIfInBounds_toArray, List.set_cons_zero, List.set_cons_succ, i64_w, i32_w]
        rfl
      refine pure_ (i := 4) (N := some 19) (v := ?_) (a' := ?_) #[true, false, true, false, true, false, false, false, false, false, false, false] rfl rfl (by kernel_rfl) (fun _ _ _ h => h) (Or.inl ⟨by rfl, ?_⟩) ?_ ?_
      rotate_left
      · intro w'
        go_simp
        with_reducible rfl
      rotate_left
      · simp only [Act.put, List.setIfInBounds_toArray, List.set_cons_zero, List.set_cons_succ, i64_w, i32_w]
        rfl
      refine take_ (i := 1) (N := some 16) (v := ?_) (a' := ?_) #[true, true, true, false, true, false, false, false, false, false, false, false] rfl rfl (by kernel_rfl) (fun _ _ _ h => h) (Or.inl ⟨by rfl, ?_⟩) hHeld ?_ ?_
      rotate_left
      · rintro w' ⟨s0, s1, s2⟩
        go_simp
        with_reducible rfl
      rotate_left
      · simp only [Act.put, List.setIfInBounds_toArray, List.set_cons_zero, List.set_cons_succ, i64_w, i32_w]
        rfl
      refine take_ (i := 3) (N := some 18) (v := ?_) (a' := ?_) #[true, true, true, true, true, false, false, false, false, false, false, false] rfl rfl (by kernel_rfl) (fun _ _ _ h => h) (Or.inl ⟨by rfl, ?_⟩) hHeld ?_ ?_
      rotate_left
      · rintro w' ⟨s0, s1, s2⟩
        go_simp
        with_reducible rfl
      rotate_left
      · simp only [Act.put, List.setIfInBounds_toArray, List.set_cons_zero, List.set_cons_succ, i64_w, i32_w]
        rfl
      refine pure_ (i := 5) (N := some 20) (v := ?_) (a' := ?_) #[true, true, true, true, true, true, false, false, false, false, false, false] rfl rfl (by kernel_rfl) (fun _ _ _ h => h) (Or.inl ⟨by rfl, ?_⟩) ?_ ?_
      rotate_left
      · intro w'
        go_simp
        with_reducible rfl
      rotate_left
      · simp only [Act.put, List.setIfInBounds_toArray, List.set_cons_zero, List.set_cons_succ, i64_w, i32_w]
        rfl
      refine pure_ (i := 6) (N := some 21) (v := ?_) (a' := ?_) #[true, true, true, true, true, true, true, false, false, false, false, false] rfl rfl (by kernel_rfl) (fun _ _ _ h => h) (Or.inl ⟨by rfl, ?_⟩) ?_ ?_
      rotate_left
      · intro w'
        go_simp
        with_reducible rfl
      rotate_left
      · simp only [Act.put, List.setIfInBounds_toArray, List.set_cons_zero, List.set_cons_succ, i64_w, i32_w]
        rfl
      refine take_ (i := 7) (N := some 22) (v := ?_) (a' := ?_) #[true, true, true, true, true, true, true, true, false, false, false, false] rfl rfl (by kernel_rfl) (fun _ _ _ h => h) (Or.inl ⟨by rfl, ?_⟩) hHeld ?_ ?_
      rotate_left
      · rintro w' ⟨s0, s1, s2⟩
        go_simp
        with_reducible rfl
      rotate_left
      · simp only [Act.put, List.setIfInBounds_toArray, List.set_cons_zero, List.set_cons_succ, i64_w, i32_w]
        rfl
      refine one_ (i := 8) (N := some 23) #[true, true, true, true, true, true, true, true, true, false, false, false] rfl rfl (by kernel_rfl) (by decide) (fun K hK => ?_)
      refine value_ (w1 := w17.alloc (.cells #[.int .i64 y] 2)) (v := .slice (some ⟨w17.heap.size, 0, none⟩) 1 1) (by rfl) rfl ?_ ?_
      · go_simp
      refine hK.out _ _ ⟨(hb5.cell h0).trans e0, (hb5.cell h1).trans e1, (hb5.cell h2).trans e2⟩ (fun hHeld => ?_)
      clear hK K
      refine norm_ (a' := ?_) ?_ ?_
      rotate_left
      · show Act.put _ (some 23) _ = _
        simp only [Act.put, List.setIfInBounds_toArray, List.set_cons_zero, List.set_cons_succ, i64_w, i32_w]
        rfl
      refine one_ (i := 9) (N := some 24) #[true, true, true, true, true, true, true, true, true, true, false, false] rfl rfl (by kernel_rfl) (by decide) (fun K hK => ?_)
      refine app_w_step (w := w17) W0.heap.size (fun k => W0.heap.size < k) (by rfl) (.tmp 16) (.tmp 23) rfl (.slice As M.length cs) M y rfl rfl (fun k hk => by have := (Array.getElem?_eq_some_iff.1 HO17.out.blk).1; omega) HO17.out.row (Below.refl _ _) HO17.out.bel.size (by have := HLM.out; omega) ?_
      intro v1 w8 HV8 HB8 HG8
      obtain ⟨A9, c9, rfl⟩ := Kd.R_slice HV8.out
      have hbk9 := HO17.out.at2 HG8.out.1
      rw [HG.out] at hbk9
      refine hK.out _ _ ⟨(blk3_c hbk9).2.2, (HB8.out.cell HH.out.1).trans e1, (HB8.out.cell HH.out.2).trans e2⟩ (fun hHeld => ?_)
      clear hK K
      refine norm_ (a' := ?_) ?_ ?_
      rotate_left
      · show Act.put _ (some 24) _ = _
        simp only [Act.put, List.setIfInBounds_toArray, List.set_cons_zero, List.set_cons_succ, i64_w, i32_w]
        rfl
      refine pure_ (i := 10) (N := some 25) (v := ?_) (a' := ?_) #[true, true, true, true, true, true, true, true, true, true, true, false] rfl rfl (by kernel_rfl) (fun _ _ _ h => h) (Or.inl ⟨by rfl, ?_⟩) ?_ ?_
      rotate_left
      · intro w'
        go_simp
        with_reducible rfl
      rotate_left
      · simp only [Act.put, List.setIfInBounds_toArray, List.set_cons_zero, List.set_cons_succ, i64_w, i32_w]
        rfl
      refine last_ (i := 11) (N := none) #[true, true, true, true, true, true, true, true, true, true, true, true] rfl rfl (by kernel_rfl) (by decide) (fun K hK => ?_)
      have z0 := (blk3_c hbk9).2.2
      have z1 := blk_fr (i := 2) hbk9
      refine skip_ (w1 := ?_) (by rfl) rfl ?_ ?_
      rotate_left
      · go_simp
        rfl
      refine hK.out _ _ ?_
      clear hK K
      refine done_ (by kernel_rfl) ?_
      have HP := Aside0.mk (HO17.out.push HG8.out.1 HV8.out)
      go_wp2
      go_roundw
      case measure => simp [intOf]; omega
      case rel =>
        refine ⟨k + 1, .slice A9 (M.length + 1) c9, M ++ [y], by omega, by go_num, HTK, ⟨?_⟩⟩
        rw [← HG.out]
        have h := HP.out
        rw [List.length_append] at h
        exact h
    · have hke : k = D.length := by omega
      subst hke
      rw [List.take_length, HMM.out] at HML
      have hMe := HML.out
      subst hMe
      have hk9 := (HO.out.bel.block (w.heap.size + 1) (by have := H0.out.2.2.2; omega)).trans H0.out.2.2.1
      obtain ⟨⟨z0, z1⟩, ⟨z2, z3⟩, ⟨z4, z5⟩⟩ := blk3_put hk9 (.slice A n c) (.slice A' n' c') (.slice As M'.length cs)
      have hz3 := blk3_three hk9 (.slice A n c) (.slice A' n' c') (.slice As M'.length cs)
      obtain ⟨r0, r1, r2⟩ := blk3_c hz3
      clear hk9 hz3
      go_wp2
      refine bodyPost_ret (v := .agg #[.slice A n c, .slice A' n' c', .slice As M'.length cs]) (by simp [results, Tryz.results16, go_sem, r0, r1, r2]) rfl ?_
      have h2 := H0.out.2.2.2
      have hrow : ∀ {V : World} (k : Nat) (u : Value), Kd.R KI 2 V W0.heap.size (fun k => W0.heap.size < k) (.slice As M'.length cs) M' → Kd.R KI 2 (V.setCell ⟨w.heap.size + 1, k, none⟩ u) W0.heap.size (fun k => W0.heap.size < k) (.slice As M'.length cs) M' := fun k u h => Kd.R_far h (p := ⟨w.heap.size + 1, k, none⟩) (fun q hq => by show q ≠ w.heap.size + 1; omega) u
      have hR5 := hrow 2 (.slice As M'.length cs) (hrow 1 (.slice A' n' c') (hrow 0 (.slice A n c) HO.out.row))
      have hBW : Below w.heap.size w wr := below_then H0.out.1 H0.out.1.size HO.out.bel
      exact ⟨As, cs, rfl, Kd.R_lower (Kd.R_mono hR5 (fun k hk => show w.heap.size ≤ k by omega)) (by omega), ((hBW.setCell (p := ⟨w.heap.size + 1, 0, none⟩) (Nat.le_succ _) _).setCell (p := ⟨w.heap.size + 1, 1, none⟩) (Nat.le_succ _) _).setCell (p := ⟨w.heap.size + 1, 2, none⟩) (Nat.le_succ _) _⟩
end
end Go.Proofs.YtlmkgghpaaadhaaGreatDoor.G
