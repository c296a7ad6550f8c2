/- Several texts of this claim in one. -/
import Derived.Test.YtlmkgghpaaadhaaGreatDoorMC
import Derived.Test.YtlmkgghpaaadhaaGreatDoorMG
import Derived.Deep.RegionHeld3
/- A relation that can be read, in a box, or handed back. -/
set_option linter.unusedVariables false
set_option linter.unusedSimpArgs false
namespace Go.Proofs.YtlmkgghpaaadhaaGreatDoor.G
open Go.RowKit Go.Proofs.YtlmkgghpaaadhaaGreatDoorW.PrintWords Go.Proofs.YtlmkgghpaaadhaaGreatDoorW.PrintLast Go.Proofs.YtlmkgghpaaadhaaGreatDoorW.PrintMore

/-- A relation's box, and what it leads to. -/
structure RelBox (W : World) (g : Nat) (A : Option Addr) (c : Nat) (sc : List Int) (A' : Option Addr) (c' : Nat) (L : List (List Int)) : Prop where
  blk : W.heap[g]? = some (.cells #[.slice A sc.length c, .slice A' L.length c'] 31 (0, 0))
  row : Kd.C KI W A sc.length sc
  rows : Kd.C KL W A' L.length L
theorem RelBox.step {W W1 : World} {g : Nat} {A : Option Addr} {c : Nat} {sc : List Int} {A' : Option Addr} {c' : Nat} {L : List (List Int)} (h : RelBox W g A c sc A' c' L) (hb : Below W.heap.size W W1) : RelBox W1 g A c sc A' c' L :=
  ⟨(hb.block _ (Array.getElem?_eq_some_iff.1 h.blk).1).trans h.blk, Kd.C_below h.row hb, Kd.C_below h.rows hb⟩
theorem RelBox.new {w : World} {A : Option Addr} {sc : List Int} {A' : Option Addr} {L : List (List Int)} (c c' : Nat) (h0 : Kd.C KI w A sc.length sc) (h1 : Kd.C KL w A' L.length L) : RelBox (w.alloc (.cells #[.slice A sc.length c, .slice A' L.length c'] 31)) w.heap.size A c sc A' c' L :=
  ⟨heap_alloc_new w _, Kd.C_below h0 (below_alloc (Below.refl _ _) _), Kd.C_below h1 (below_alloc (Below.refl _ _) _)⟩

/-- A relation that can be read. -/
structure RelRd (W : World) (A : Option Addr) (c : Nat) (sc : List Int) (A' : Option Addr) (c' : Nat) (L : List (List Int)) : Prop where
  row : Kd.C KI W A sc.length sc
  cap : sc.length ≤ c
  rows : Kd.C KL W A' L.length L
  cap2 : L.length ≤ c'
theorem RelRd.step {W W1 : World} {A : Option Addr} {c : Nat} {sc : List Int} {A' : Option Addr} {c' : Nat} {L : List (List Int)} (h : RelRd W A c sc A' c' L) (hb : Below W.heap.size W W1) : RelRd W1 A c sc A' c' L :=
  ⟨Kd.C_below h.row hb, h.cap, Kd.C_below h.rows hb, h.cap2⟩
/-- A relation in a box. -/
structure RelBx (W : World) (g : Nat) (A : Option Addr) (c : Nat) (sc : List Int) (A' : Option Addr) (c' : Nat) (L : List (List Int)) : Prop where
  blk : W.heap[g]? = some (.cells #[.slice A sc.length c, .slice A' L.length c'] 31 (0, 0))
  rd : RelRd W A c sc A' c' L
theorem RelBx.step {W W1 : World} {g : Nat} {A : Option Addr} {c : Nat} {sc : List Int} {A' : Option Addr} {c' : Nat} {L : List (List Int)} (h : RelBx W g A c sc A' c' L) (hb : Below W.heap.size W W1) : RelBx W1 g A c sc A' c' L :=
  ⟨(hb.block _ (Array.getElem?_eq_some_iff.1 h.blk).1).trans h.blk, h.rd.step hb⟩
theorem RelBx.new {w : World} {A : Option Addr} {c : Nat} {sc : List Int} {A' : Option Addr} {c' : Nat} {L : List (List Int)} (h : RelRd w A c sc A' c' L) : RelBx (w.alloc (.cells #[.slice A sc.length c, .slice A' L.length c'] 31)) w.heap.size A c sc A' c' L :=
  ⟨heap_alloc_new w _, h.step (below_alloc (Below.refl _ _) _)⟩
theorem below_box {w w1 : World} (h : Below w.heap.size w w1) (b : _) : Below w.heap.size w (w1.alloc b) := h.trans (below_alloc (Below.refl _ _) b |>.mono h.size)
theorem RelM.rd {w : World} {base : Nat} {v : Value} {r : List Int × List (List Int)} (h : RelM w base v r) : ∃ A c A' c', v = .agg #[.slice A r.1.length c, .slice A' r.2.length c'] ∧ RelRd w A c r.1 A' c' r.2 := by
  obtain ⟨A, c, A', c', rfl, h0, h3, h1, h2⟩ := h.reads
  exact ⟨A, c, A', c', rfl, h1, h0, h2, h3⟩
/-- A relation of no great size. -/
structure Sz (sc : List Int) (L : List (List Int)) : Prop where
  s : sc.length ≤ 1000
  l : L.length ≤ 10000
  x : ∀ x ∈ L, x.length ≤ 1000
end Go.Proofs.YtlmkgghpaaadhaaGreatDoor.G

/- The document's functions of layers 2 and 3 over relations, walked: Same, Project, Agree. -/
set_option linter.unusedVariables false
set_option linter.unusedSimpArgs false
namespace Go.Proofs.YtlmkgghpaaadhaaGreatDoor.G
open Go.RowKit Go.Proofs.YtlmkgghpaaadhaaGreatDoorW.PrintWords Go.Proofs.YtlmkgghpaaadhaaGreatDoorW.PrintLast Go.Proofs.YtlmkgghpaaadhaaGreatDoorW.PrintMore

/-- Two boxes of a call's own. -/
structure Bx2 (w W : World) (a0 a1 b0 b1 : Value) : Prop where
  bel : Below w.heap.size w W
  a : W.heap[w.heap.size]? = some (.cells #[a0, a1] 31 (0, 0))
  b : W.heap[w.heap.size + 1]? = some (.cells #[b0, b1] 31 (0, 0))
theorem Bx2.new (w : World) (a0 a1 b0 b1 : Value) : Bx2 w ((w.alloc (.cells #[a0, a1] 31)).alloc (.cells #[b0, b1] 31)) a0 a1 b0 b1 :=
  ⟨below_alloc (below_alloc (Below.refl _ _) _) _, (Below.heap_alloc _ _ _ (by simp)).trans (heap_alloc_new w _), by have := heap_alloc_new (w.alloc (.cells #[a0, a1] 31)) (.cells #[b0, b1] 31); rwa [World.size_alloc] at this⟩
theorem Bx2.step {w W W1 : World} {a0 a1 b0 b1 : Value} (h : Bx2 w W a0 a1 b0 b1) (hb : Below W.heap.size W W1) : Bx2 w W1 a0 a1 b0 b1 :=
  ⟨below_then h.bel h.bel.size hb, (hb.block _ (Array.getElem?_eq_some_iff.1 h.a).1).trans h.a, (hb.block _ (Array.getElem?_eq_some_iff.1 h.b).1).trans h.b⟩
theorem Bx2.cells {w W : World} {a0 a1 b0 b1 : Value} (h : Bx2 w W a0 a1 b0 b1) : W.cell? ⟨w.heap.size, 0, none⟩ = some a0 ∧ W.cell? ⟨w.heap.size, 1, none⟩ = some a1 ∧ W.cell? ⟨w.heap.size + 1, 0, none⟩ = some b0 ∧ W.cell? ⟨w.heap.size + 1, 1, none⟩ = some b1 :=
  ⟨blk2_c0 h.a, blk2_c1 h.a, blk2_c0 h.b, blk2_c1 h.b⟩

section
variable {w : World} {A : Option Addr} {c : Nat} {sc : List Int} {A' : Option Addr} {c' : Nat} {L : List (List Int)} {B : Option Addr} {d : Nat} {sd : List Int} {B' : Option Addr} {d' : Nat} {M : List (List Int)}
set_option maxHeartbeats 4000000 in
set_option maxRecDepth 100000 in
theorem refsame_any (h : RelRd w A c sc A' c' L) (h' : RelRd w B d sd B' d' M) (hs : sc.length ≤ 1000000000000) (hs' : sd.length ≤ 1000000000000) (hL : ∀ x ∈ L, x.length ≤ 1000000000000) (hM : ∀ x ∈ M, x.length ≤ 1000000000000) (b : Bool) (hb : decide (sc = sd ∧ L = M) = b) :
    Calls Tryz.prog 29 #[.agg #[.slice A sc.length c, .slice A' L.length c'], .agg #[.slice B sd.length d, .slice B' M.length d']] w fun e w' => e = .returned (.bool b) ∧ Below w.heap.size w w' := by
  have HR := Aside0.mk (And.intro h h')
  have HX := Aside0.mk (And.intro hL hM)
  have HBB := Aside0.mk hb
  have hm0 : L.length ≤ 9223372036854775807 := h.rows.2.1
  have hm1 : M.length ≤ 9223372036854775807 := h'.rows.2.1
  have hx0 := Bx2.new w (.slice A sc.length c) (.slice A' L.length c') (.slice B sd.length d) (.slice B' M.length d')
  obtain ⟨W0, hW0⟩ : ∃ W0, (w.alloc (.cells #[.slice A sc.length c, .slice A' L.length c'] 31)).alloc (.cells #[.slice B sd.length d, .slice B' M.length d'] 31) = W0 := ⟨_, rfl⟩
  rw [hW0] at hx0
  obtain ⟨q0, q1, q2, q3⟩ := hx0.cells
  have H0 := Aside0.mk hx0
  clear h h' hL hM hb hx0
  go_enter Tryz.func29, Tryz.ntmps29
  by_cases hlen : L.length = M.length
  · have hlb : ((L.length : Int) != (M.length : Int)) = false := by simp [hlen]
    by_cases hsd : sc = sd
    · have hcz : (Pl.cmp sc sd != 0) = false := by simp [(Pl.cmp_eq _ _).2 hsd]
      have HSD := Aside0.mk hsd
      have HLEN := Aside0.mk hlen
      clear hsd hlen
      go_wp2_with (go_at_call 55; refine (refcmp_any (Kd.C_below HR.out.1.row H0.out.bel) (Kd.C_below HR.out.2.row H0.out.bel) hs hs').mono ?_; rintro e w1 ⟨rfl, hd1⟩; have H1 := Aside0.mk (H0.out.step hd1.below); clear hd1)
      clear q0 q1 q2 q3
      go_loopw [5] (fun i W => ∃ k : Nat, k ≤ L.length ∧ i = .int .i64 k ∧ Aside0 (Bx2 w W (.slice A sc.length c) (.slice A' L.length c') (.slice B sd.length d) (.slice B' M.length d')) ∧ Aside0 (L.take k = M.take k)) (fun i _ => L.length - (intOf i).toNat)
      case atStart => exact ⟨0, Nat.zero_le _, rfl, H1, ⟨rfl⟩⟩
      case round =>
        obtain ⟨k, hk, rfl, HW, HE⟩ := hrel
        obtain ⟨q0, q1, q2, q3⟩ := HW.out.cells
        by_cases hlt : k < L.length
        · have hl0 : (k : Int) < (L.length : Int) := by omega
          have hl1 : (k : Int) < (M.length : Int) := by have := HLEN.out; omega
          obtain ⟨ad, Bx, cx, rfl, hx, _, hC⟩ := at_row HR.out.1.rows HW.out.bel k hlt
          obtain ⟨ad2, By, cy, rfl, hy, _, hC2⟩ := at_row HR.out.2.rows HW.out.bel k (by have := HLEN.out; omega)
          have hxl : (L.getD k []).length ≤ 1000000000000 := by
            refine HX.out.1 _ ?_
            rw [List.getD_eq_getElem?_getD, List.getElem?_eq_getElem hlt]; exact List.getElem_mem hlt
          have hyl : (M.getD k []).length ≤ 1000000000000 := by
            have hlt2 : k < M.length := by have := HLEN.out; omega
            refine HX.out.2 _ ?_
            rw [List.getD_eq_getElem?_getD, List.getElem?_eq_getElem hlt2]; exact List.getElem_mem hlt2
          have HT := Aside0.mk (show (L.getD k [] = M.getD k [] → L.take (k + 1) = M.take (k + 1)) ∧ (L = M → L.getD k [] = M.getD k []) from ⟨fun e => by
            have hlt2 : k < M.length := by have := HLEN.out; omega
            rw [List.getD_eq_getElem?_getD, List.getD_eq_getElem?_getD, List.getElem?_eq_getElem hlt, List.getElem?_eq_getElem hlt2] at e
            rw [List.take_succ_eq_append_getElem hlt, List.take_succ_eq_append_getElem hlt2, HE.out]
            exact congrArg (fun z => M.take k ++ [z]) e, fun e => by rw [e]⟩)
          obtain ⟨x, hxe⟩ : ∃ x, L.getD k [] = x := ⟨_, rfl⟩
          obtain ⟨y, hye⟩ : ∃ y, M.getD k [] = y := ⟨_, rfl⟩
          rw [hxe] at hx hC hxl HT
          rw [hye] at hy hC2 hyl HT
          have HCC := Aside0.mk (And.intro hC hC2)
          clear hC hC2 hxe hye
          by_cases he : x = y
          · have hcz2 : (Pl.cmp x y != 0) = false := by simp [(Pl.cmp_eq _ _).2 he]
            have HEE := Aside0.mk he
            clear he
            go_wp2
            go_quiet ((go_at_call 55; exact Calls.quiet_of (refcmp_q _ HCC.out.1 HCC.out.2 hxl hyl)))
            go_wp2
            go_roundw
            case rel => exact ⟨k + 1, by omega, by go_num, ⟨HW.out.step (pw_below_drewN (Below.refl _ _) _)⟩, ⟨HT.out.1 HEE.out⟩⟩
            case measure => simp [intOf]; omega
          · have hcz2 : (Pl.cmp x y != 0) = true := by simp [Pl.cmp_eq, he]
            have HEE := Aside0.mk he
            clear he
            go_wp2
            go_quiet ((go_at_call 55; exact Calls.quiet_of (refcmp_q _ HCC.out.1 HCC.out.2 hxl hyl)))
            go_wp2
            go_ret
            exact ⟨by rw [← HBB.out, decide_eq_false (fun e => HEE.out (HT.out.2 e.2))]; rfl, pw_below_drewN HW.out.bel _⟩
        · go_wp2
          go_ret
          have he := HE.out
          rw [List.take_of_length_le (by omega), List.take_of_length_le (by have := HLEN.out; omega)] at he
          exact ⟨by rw [← HBB.out, decide_eq_true ⟨HSD.out, he⟩]; rfl, HW.out.bel⟩
    · have hcz : (Pl.cmp sc sd != 0) = true := by simp [Pl.cmp_eq, hsd]
      have HSD := Aside0.mk hsd
      clear hsd hlen
      go_wp2_with (go_at_call 55; refine (refcmp_any (Kd.C_below HR.out.1.row H0.out.bel) (Kd.C_below HR.out.2.row H0.out.bel) hs hs').mono ?_; rintro e w1 ⟨rfl, hd1⟩; have H1 := Aside0.mk (H0.out.step hd1.below); clear hd1)
      go_ret
      exact ⟨by rw [← HBB.out, decide_eq_false (fun e => HSD.out e.1)]; rfl, H1.out.bel⟩
  · have hlb : ((L.length : Int) != (M.length : Int)) = true := by simp; omega
    have HLEN := Aside0.mk hlen
    clear hlen
    go_wp2
    go_ret
    exact ⟨by rw [← HBB.out, decide_eq_false (fun e => HLEN.out (by rw [e.2]))]; rfl, H0.out.bel⟩

end
end Go.Proofs.YtlmkgghpaaadhaaGreatDoor.G
