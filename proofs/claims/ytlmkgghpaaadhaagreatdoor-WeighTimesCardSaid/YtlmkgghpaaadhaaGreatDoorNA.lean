/- Several texts of this claim in one. -/
import Derived.Test.YtlmkgghpaaadhaaGreatDoorBox
import Derived.Test.YtlmkgghpaaadhaaGreatDoorMZ
import Derived.Deep.Matrix
import Derived.ProofKit
import Derived.OpenShut
import Derived.WalkKit
import Derived.ShutString
import Derived.ChangeOld
import Derived.Below
import Derived.Test.YtlmkgghpaaadhaaGreatDoorMO
import Derived.Test.YtlmkgghpaaadhaaGreatDoorRows
import Derived.LaidMore
import Derived.LaidSub
import Derived.LaidHandle
import Derived.MakeChecks
import Derived.Stop.Joined
import Derived.Lib.LaidTab
/- The first numbers of a row, up to a limit. -/
set_option linter.unusedVariables false
set_option linter.unusedSimpArgs false
namespace Go.Proofs.YtlmkgghpaaadhaaGreatDoor.G
open Go.RowKit Go.Proofs.YtlmkgghpaaadhaaGreatDoorW.PrintWords Go.Proofs.YtlmkgghpaaadhaaGreatDoorW.PrintLast Go.Proofs.YtlmkgghpaaadhaaGreatDoorW.PrintMore

end Go.Proofs.YtlmkgghpaaadhaaGreatDoor.G

/- Rows of numbers, and rows of rows, that came in: see Box. -/

/- A part of the weigh laws that came in. -/
set_option linter.unusedVariables false
set_option linter.unusedSimpArgs false
namespace Go.Proofs.YtlmkgghpaaadhaaGreatDoor.G
open Go.RowKit Go.ChangeShapes Go.WideShapes Go.ChangeAt Go.Deep Go.Proofs.YtlmkgghpaaadhaaGreatDoorW.PrintWords Go.Proofs.YtlmkgghpaaadhaaGreatDoorW.PrintLast Go.Proofs.YtlmkgghpaaadhaaGreatDoorW.PrintMore
theorem trod_struct4 {P : Program} {H : Type} {enc : TypeId × Value → H} {w : World} {base : Nat} {spare : Nat → Bool} {held : Bool} {t : TypeId} {f0 f1 f2 f3 : Field} {fuel : Nat} {cs : List Value} {x : DataW H × List MemPlace} (ht : P.underlying t = some (.struct #[f0, f1, f2, f3])) (h : DataW.trod enc P w base spare held fuel t cs = some x) :
    ∃ y0 y1 y2 y3 n, cs.length = P.cellsOf t ∧ DataW.trod enc P w base spare held n f0.type ((cs.drop f0.offset).take (P.cellsOf f0.type)) = some y0 ∧
      DataW.trod enc P w base spare held n f1.type ((cs.drop f1.offset).take (P.cellsOf f1.type)) = some y1 ∧
      DataW.trod enc P w base spare held n f2.type ((cs.drop f2.offset).take (P.cellsOf f2.type)) = some y2 ∧
      DataW.trod enc P w base spare held n f3.type ((cs.drop f3.offset).take (P.cellsOf f3.type)) = some y3 := by
  obtain ⟨xs, n, _, rfl, hl, hlen, hf⟩ := DataW.trod_struct ht h
  match xs, hlen with
  | [y0, y1, y2, y3], _ => exact ⟨y0, y1, y2, y3, n, hl, by simpa using hf 0 f0 rfl, by simpa using hf 1 f1 rfl, by simpa using hf 2 f2 rfl, by simpa using hf 3 f3 rfl⟩
theorem slice_of4 {H : Type} {enc : TypeId × Value → H} {W : World} {base : Nat} {held : Bool} {v : Value} {x : DataW H × List MemPlace} {fuel : Nat} {t e : Nat} (ht : Tryz.prog.underlying t = some (.slice e))
    (h : DataW.trod enc Tryz.prog W base (fun _ => true) held fuel t [v] = some x) : ∃ a len cap, v = .slice a len cap := by
  rcases Go.Deep.open_slice ht h with h1 | h1
  · simp at h1; exact ⟨_, _, _, h1.1⟩
  · obtain ⟨a, len, cap, h2⟩ : ∃ a len cap, [v] = [Value.slice a len cap] := by
      obtain ⟨ad, l, c, _, _, _, _, h3, _⟩ := h1
      exact ⟨_, _, _, h3⟩
    simp at h2
    exact ⟨a, len, cap, h2⟩
/-- A row of weights that came in. -/
theorem in_ints64 {H : Type} {enc : TypeId × Value → H} {W : World} {base : Nat} {held : Bool} {a : Option Addr} {len cap : Nat} {x : DataW H × List MemPlace} {fuel : Nat}
    (h : DataW.trod enc Tryz.prog W base (fun _ => true) held fuel 24 (Value.slice a len cap).cells.toList = some x) :
    ∃ xs : List Int, xs.length = len ∧ len ≤ cap ∧ Kd.C KI W a xs.length xs := by
  rcases open_ints Tryz.underlying24 Tryz.underlying2 (by kernel_rfl) h with ⟨hcs, _⟩ | ⟨ad, l, c, zs, hcs, _, hl, hm, hz, _, hcell, hwz⟩
  · simp [Value.cells] at hcs
    obtain ⟨rfl, rfl, rfl⟩ := hcs
    exact ⟨[], rfl, Nat.le_refl _, Kd.C_nil _ _⟩
  · simp [Value.cells] at hcs
    obtain ⟨rfl, rfl, rfl⟩ := hcs
    have hz' : zs.length = cap := by simpa using hz
    have hlen : (zs.take len).length = len := by simp; omega
    refine ⟨zs.take len, hlen, hl, hlen.symm ▸ ?_⟩
    refine ⟨hlen, by unfold maxLen at hm; omega, fun h0 => ⟨ad, rfl, fun j p hj => ?_⟩⟩
    have hjl : j < len := by have := (List.getElem?_eq_some_iff.1 hj).1; omega
    refine ⟨[.int .i64 p], rfl, rfl, fun i u hu => ?_⟩
    have hi0 : i = 0 := by have := (List.getElem?_eq_some_iff.1 hu).1; simpa using this
    subst hi0
    have hu' : u = .int .i64 p := by simpa using hu.symm
    rw [hu', show KI.sz = 1 from rfl, Nat.mul_one, Nat.add_zero, hcell j (by omega)]
    rw [List.getElem?_take_of_lt hjl] at hj
    rw [List.getD_eq_getElem?_getD, hj]; rfl
set_option maxRecDepth 100000 in
theorem in_part4 {H : Type} {enc : TypeId × Value → H} {W : World} {base : Nat} {held : Bool} {cs : Array Value} {x : DataW H × List MemPlace} {fuel : Nat}
    (h : DataW.trod enc Tryz.prog W base (fun _ => true) held fuel 26 (Value.agg cs).cells.toList = some x) :
    ∃ A c sc A' c' L Aa ca xA Ab nb cb, cs = #[.slice A sc.length c, .slice A' L.length c', .slice Aa xA.length ca, .slice Ab nb cb] ∧ RelRd W A c sc A' c' L ∧ Kd.C KI W Aa xA.length xA ∧ nb ≤ 9223372036854775807 := by
  have e : (Value.agg cs).cells.toList = cs.toList := by simp [Value.cells]
  rw [e] at h
  obtain ⟨y0, y1, y2, y3, n, hl, h0, h1, h2, h3⟩ := trod_struct4 Tryz.underlying26 h
  have c1 : Tryz.prog.cellsOf 26 = 4 := by kernel_rfl
  have c2 : Tryz.prog.cellsOf 22 = 1 := by kernel_rfl
  have c3 : Tryz.prog.cellsOf 23 = 1 := by kernel_rfl
  have c4 : Tryz.prog.cellsOf 24 = 1 := by kernel_rfl
  rw [c1] at hl
  obtain ⟨l⟩ := cs
  match l, hl with
  | [a, b, c, d], _ =>
    replace h0 : DataW.trod enc Tryz.prog W base (fun _ => true) held n 22 [a] = some y0 := by
      have h9 : DataW.trod enc Tryz.prog W base (fun _ => true) held n 22 (([a, b, c, d].drop 0).take (Tryz.prog.cellsOf 22)) = some y0 := h0
      rwa [c2] at h9
    replace h1 : DataW.trod enc Tryz.prog W base (fun _ => true) held n 23 [b] = some y1 := by
      have h9 : DataW.trod enc Tryz.prog W base (fun _ => true) held n 23 (([a, b, c, d].drop 1).take (Tryz.prog.cellsOf 23)) = some y1 := h1
      rwa [c3] at h9
    replace h2 : DataW.trod enc Tryz.prog W base (fun _ => true) held n 24 [c] = some y2 := by
      have h9 : DataW.trod enc Tryz.prog W base (fun _ => true) held n 24 (([a, b, c, d].drop 2).take (Tryz.prog.cellsOf 24)) = some y2 := h2
      rwa [c4] at h9
    replace h3 : DataW.trod enc Tryz.prog W base (fun _ => true) held n 24 [d] = some y3 := by
      have h9 : DataW.trod enc Tryz.prog W base (fun _ => true) held n 24 (([a, b, c, d].drop 3).take (Tryz.prog.cellsOf 24)) = some y3 := h3
      rwa [c4] at h9
    obtain ⟨a0, l0, k0, rfl⟩ := slice_of4 Tryz.underlying22 h0
    obtain ⟨a1, l1, k1, rfl⟩ := slice_of4 Tryz.underlying23 h1
    obtain ⟨a2, l2, k2, rfl⟩ := slice_of4 Tryz.underlying24 h2
    obtain ⟨a3, l3, k3, rfl⟩ := slice_of4 Tryz.underlying24 h3
    obtain ⟨xs, hx, hcx, hC⟩ := in_ints (a := a0) (len := l0) (cap := k0) h0
    obtain ⟨L, hL, hcL, hD⟩ := in_rows (a := a1) (len := l1) (cap := k1) h1
    obtain ⟨ys, hy, hcy, hE⟩ := in_ints64 (a := a2) (len := l2) (cap := k2) h2
    obtain ⟨zs, hz, hcz, hF⟩ := in_ints64 (a := a3) (len := l3) (cap := k3) h3
    subst hx hL hy hz
    exact ⟨a0, k0, xs, a1, k1, L, a2, k2, ys, a3, zs.length, k3, rfl, ⟨hC, hcx, hD, hcL⟩, hE, hF.2.1⟩
end Go.Proofs.YtlmkgghpaaadhaaGreatDoor.G

/- What the listed variables give: the table that strconv reads; a start that fits; an argument that is a relation. -/
set_option linter.unusedVariables false
set_option linter.unusedSimpArgs false
namespace Go.Proofs.YtlmkgghpaaadhaaGreatDoor.G
open Go.RowKit Go.ChangeShapes Go.WideShapes Go.ChangeAt Go.Deep Go.Proofs.YtlmkgghpaaadhaaGreatDoorW.PrintWords Go.Proofs.YtlmkgghpaaadhaaGreatDoorW.PrintLast Go.Proofs.YtlmkgghpaaadhaaGreatDoorW.PrintMore

abbrev laidList : List (String × DataW Unit) := [("math/bits.deBruijn32tab", Rows.laid_math_bits_deBruijn32tab), ("math/bits.deBruijn64tab", Rows.laid_math_bits_deBruijn64tab), ("internal/strconv.uint64pow10", Rows.laid_internal_strconv_uint64pow10)]
theorem gPow : Tryz.prog.globalNamed "internal/strconv.uint64pow10" = some 1 := by kernel_rfl
theorem tPow : (Tryz.prog.globals[1]?).map (·.type) = some 197 := by kernel_rfl
theorem tab_of {W : World} (h : laidMetH Tryz.prog laidList W) : Tab W := by
  have h1 := laidMetH.filter (fun x => x.1 == "internal/strconv.uint64pow10") h
  have e : laidList.filter (fun x => x.1 == "internal/strconv.uint64pow10") = [("internal/strconv.uint64pow10", Lib.tabData .u64 Lib.pow10Tab)] := by
    rw [show laidList = [("math/bits.deBruijn32tab", Rows.laid_math_bits_deBruijn32tab), ("math/bits.deBruijn64tab", Rows.laid_math_bits_deBruijn64tab), ("internal/strconv.uint64pow10", Rows.laid_internal_strconv_uint64pow10)] from rfl]
    rw [List.filter_cons_of_neg (by decide), List.filter_cons_of_neg (by decide), List.filter_cons_of_pos (by decide)]
    rfl
  rw [e, MakeChecks.laidMetH_plain _ _ _ (by kernel_rfl)] at h1
  exact Lib.tabIs_of_head gPow tPow Tryz.underlying197 Tryz.underlying78 (by kernel_rfl) (by kernel_rfl) h1
theorem door_met (os : Os) (args : Array Value) : laidMetH Tryz.prog laidList ((World.doorLaid Tryz.prog 400 os).forCall (fun _ _ => 0) ⟨#[], args, []⟩).memory :=
  laidMetH_of_parts3 (fuel := 8) (laidMet_of_run' 8 (by kernel_rfl) (by kernel_rfl)) (by kernel_rfl) (by kernel_rfl)
end Go.Proofs.YtlmkgghpaaadhaaGreatDoor.G

/- weigh: what the laws keep in boxes. -/
set_option linter.unusedVariables false
set_option linter.unusedSimpArgs false
namespace Go.Proofs.YtlmkgghpaaadhaaGreatDoor.G
open Go.RowKit Go.Proofs.YtlmkgghpaaadhaaGreatDoorW.PrintWords Go.Proofs.YtlmkgghpaaadhaaGreatDoorW.PrintLast Go.Proofs.YtlmkgghpaaadhaaGreatDoorW.PrintMore

theorem cell_below {W W1 : World} (hb : Below W.heap.size W W1) {p : Addr} {v : Value} (h : W.cell? p = some v) : W1.cell? p = some v := (hb.cell (World.block_lt_of_cell? W _ h)).trans h
/-- Rows that weigh something, in a box. -/
structure WBx (W : World) (g : Nat) (A : Option Addr) (c n : Nat) (sc : List Int) (A' : Option Addr) (c' n' : Nat) (L : List (List Int)) (Aw : Option Addr) (cw m : Nat) (ws : List Int) : Prop where
  blk : W.heap[g]? = some (.cells #[.slice A n c, .slice A' n' c', .slice Aw m cw] 37 (0, 0))
  n : sc.length = n
  n' : L.length = n'
  m : ws.length = m
  rd : WRd W A c sc A' c' L Aw cw ws
theorem WBx.step {W W1 : World} {g : Nat} {A : Option Addr} {c n : Nat} {sc : List Int} {A' : Option Addr} {c' n' : Nat} {L : List (List Int)} {Aw : Option Addr} {cw m : Nat} {ws : List Int} (h : WBx W g A c n sc A' c' n' L Aw cw m ws) (hb : Below W.heap.size W W1) : WBx W1 g A c n sc A' c' n' L Aw cw m ws :=
  ⟨(hb.block _ (Array.getElem?_eq_some_iff.1 h.blk).1).trans h.blk, h.n, h.n', h.m, h.rd.step hb⟩
theorem WBx.new {w : World} {A : Option Addr} {c n : Nat} {sc : List Int} {A' : Option Addr} {c' n' : Nat} {L : List (List Int)} {Aw : Option Addr} {cw m : Nat} {ws : List Int} (h : WRd w A c sc A' c' L Aw cw ws) (h1 : sc.length = n) (h2 : L.length = n') (h3 : ws.length = m) : WBx (w.alloc (.cells #[.slice A n c, .slice A' n' c', .slice Aw m cw] 37)) w.heap.size A c n sc A' c' n' L Aw cw m ws :=
  ⟨heap_alloc_new w _, h1, h2, h3, h.step (below_alloc (Below.refl _ _) _)⟩
/-- A part that came in, in its box. -/
theorem P4Bx.new {w : World} {A : Option Addr} {c : Nat} {sc : List Int} {A' : Option Addr} {c' : Nat} {L : List (List Int)} {Aa : Option Addr} {ca : Nat} {xA : List Int} {Ab : Option Addr} {nb cb : Nat} (h : RelRd w A c sc A' c' L) (ha : Kd.C KI w Aa xA.length xA) :
    P4Bx (w.alloc (.cells #[.slice A sc.length c, .slice A' L.length c', .slice Aa xA.length ca, .slice Ab nb cb] 26)) w.heap.size A c sc A' c' L Aa ca xA Ab nb cb :=
  ⟨heap_alloc_new w _, h.step (below_alloc (Below.refl _ _) _), Kd.C_below ha (below_alloc (Below.refl _ _) _)⟩
section
variable {w : World} {A : Option Addr} {c : Nat} {sc : List Int} {A' : Option Addr} {c' : Nat} {L : List (List Int)} {Aw : Option Addr} {cw : Nat} {ws : List Int}
theorem ref_is {n n' : Nat} {Aa : Option Addr} {ca : Nat} {xA : List Int} {Ab : Option Addr} {nb cb : Nat} {g : Nat} (h : P4Bx w g A c sc A' c' L Aa ca xA Ab nb cb) (most : Int) (hm0 : 0 < most) (hm1 : most ≤ 4611686018427387904) (hnb : nb ≤ 9223372036854775807) {s : List Int} (hs : smallS3 sc = s) {R : List (List Int)} (hR : smallRows3 s.length L = R) (h1 : s.length = n) (h2 : R.length = n') :
    Calls Tryz.prog 14 #[.agg #[.slice A sc.length c, .slice A' L.length c', .slice Aa xA.length ca, .slice Ab nb cb], .int .i64 most, .bool true] w fun e w' => ∃ A2 c2 A3 c3 A4 c4, e = .returned (.agg #[.slice A2 n c2, .slice A3 n' c3, .slice A4 n' c4]) ∧ RelRd w' A2 c2 s A3 c3 R ∧ Kd.C KWt w' A4 n' (refW most xA n') ∧ Below w.heap.size w w' := by
  subst h1 h2
  refine (ref_any h.rd h.a most hm0 hm1 hnb hs hR).mono ?_
  rintro e w' ⟨A2, c2, A3, c3, A4, c4, rfl, hM, hD, hb⟩
  refine ⟨A2, c2, A3, c3, A4, c4, rfl, RelM.rd' hM, ?_, hb⟩
  have h1 := (Kd.R_reads' hD).2.2
  rw [refW_len] at h1
  exact h1
end
theorem clampW_in {most v : Int} (h : 0 < most) : (clampW most v).natAbs ≤ most.natAbs := by
  unfold clampW
  split
  · have := tmod_in v most h; omega
  · omega
end Go.Proofs.YtlmkgghpaaadhaaGreatDoor.G

/- weigh: one row of no variables, in calls. -/
set_option linter.unusedVariables false
set_option linter.unusedSimpArgs false
namespace Go.Proofs.YtlmkgghpaaadhaaGreatDoor.G
open Go.RowKit Go.Proofs.YtlmkgghpaaadhaaGreatDoorW.PrintWords Go.Proofs.YtlmkgghpaaadhaaGreatDoorW.PrintLast Go.Proofs.YtlmkgghpaaadhaaGreatDoorW.PrintMore

section
variable {w : World} {A : Option Addr} {c : Nat} {A' : Option Addr} {c' : Nat} {Aw : Option Addr} {cw : Nat} {B : Option Addr} {d : Nat} {B' : Option Addr} {d' : Nat} {Bw : Option Addr} {dw : Nat} {a b : Int}
end
/-- A box takes what a call made. -/
theorem box_put3 {W : World} {g base : Nat} {x y z : Value} {A : Option Addr} {c : Nat} {A' : Option Addr} {c' : Nat} {Aw : Option Addr} {cw : Nat} {r : WRel} (h : W.heap[g]? = some (.cells #[x, y, z] 37 (0, 0))) (hm : WMk W base A c A' c' Aw cw r) (hg : g < base) {n n' m : Nat} (h1 : r.sc.length = n) (h2 : r.L.length = n') (h3 : r.ws.length = m) :
    WBx (((W.setCell ⟨g, 0, none⟩ (.slice A n c)).setCell ⟨g, 1, none⟩ (.slice A' n' c')).setCell ⟨g, 2, none⟩ (.slice Aw m cw)) g A c n r.sc A' c' n' r.L Aw cw m r.ws := by
  have hfar : ∀ {V : World} (k : Nat) (u : Value), WMk V base A c A' c' Aw cw r → WMk (V.setCell ⟨g, k, none⟩ u) base A c A' c' Aw cw r := fun k u hv =>
    ⟨RelM.far (p := ⟨g, k, none⟩) hv.rel hg u, Kd.R_far hv.w (p := ⟨g, k, none⟩) (fun q hq => by show q ≠ g; omega) u⟩
  exact ⟨blk3_three h _ _ _, h1, h2, h3, (hfar 2 _ (hfar 1 _ (hfar 0 _ hm))).rd⟩
end Go.Proofs.YtlmkgghpaaadhaaGreatDoor.G
