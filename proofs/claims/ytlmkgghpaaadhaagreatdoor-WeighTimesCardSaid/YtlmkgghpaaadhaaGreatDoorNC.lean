/- Several texts of this claim in one. -/
import Derived.Test.YtlmkgghpaaadhaaGreatDoorNB
/- The document's sums of weights, walked. -/
set_option linter.unusedVariables false
set_option linter.unusedSimpArgs false
namespace Go.Proofs.YtlmkgghpaaadhaaGreatDoor.G
open Go.RowKit Go.Proofs.YtlmkgghpaaadhaaGreatDoorW.PrintWords Go.Proofs.YtlmkgghpaaadhaaGreatDoorW.PrintLast Go.Proofs.YtlmkgghpaaadhaaGreatDoorW.PrintMore Go.Proofs.YtlmkgghpaaadhaaGreatDoor.PRefs

theorem size4_same (n : Int) (h : n.natAbs ≤ 4611686018427387904) (w : World) : Calls Tryz.prog 49 #[.int .i64 n] w fun e w' => e = .returned (.int .i64 (n.natAbs : Int)) ∧ w = w' := by
  by_cases hn : n < 0
  · obtain ⟨y, hy⟩ : ∃ y, (n.natAbs : Int) = y := ⟨_, rfl⟩
    have he : IntKind.i64.wrap (-n) = y := by rw [Go.IntWalk.i64_in _ (by omega)]; omega
    have he2 : wrap64 (-n) = y := by rw [Go.IntWalk.wrap64_in _ (by omega)]; omega
    rw [hy]
    clear hy
    go_enter Tryz.func49, Tryz.ntmps49
    go_wp2
    go_ret
    exact ⟨by first | rfl | rw [he2], rfl⟩
  · have he : (n.natAbs : Int) = n := by omega
    rw [he]
    clear he
    go_enter Tryz.func49, Tryz.ntmps49
    go_wp2
    go_ret
    exact ⟨rfl, rfl⟩
theorem fit_q {A0 A1 A2 A3 : Option Addr} {c0 c1 c2 c3 : Nat} {s t u v : List Int} {w : World} (n : Nat) {k0 k1 k2 k3 : Nat} (hr0 : Kd.C KI w A0 s.length s) (hr1 : Kd.C KI w A1 t.length t) (hr2 : Kd.C KI w A2 u.length u) (hr3 : Kd.C KI w A3 v.length v)
    (hs : s.Nodup) (ht : t.length = s.length) (hv : v.length = u.length) (h0 : s.length = k0) (h1 : t.length = k1) (h2 : u.length = k2) (h3 : v.length = k3) (b : Bool) (hb : fits s u t v = b) :
    Calls Tryz.prog 48 #[.slice A0 k0 c0, .slice A1 k1 c1, .slice A2 k2 c2, .slice A3 k3 c3] (w.drewN n) fun e w' => e = .returned (.bool b) ∧ ∃ m, w' = (w.drewN n).drewN m := by
  subst h0 h1 h2 h3
  exact (reffit_any (Kd.C_drewN hr0 n) (Kd.C_drewN hr1 n) (Kd.C_drewN hr2 n) (Kd.C_drewN hr3 n) hs ht hv b hb).mono fun _ _ h => ⟨h.1, h.2.out⟩
/-- Sums of weights: two boxes of two numbers. -/
structure SumSt (wo W : World) (s l : Int) : Prop where
  bel : Below wo.heap.size wo W
  wb : W.heap[wo.heap.size]? = some (.cells #[.int .i64 s, .int .i64 0] 68 (0, 0))
  lb : W.heap[wo.heap.size + 1]? = some (.cells #[.int .i64 l, .int .i64 4611686018427387904] 68 (0, 0))
theorem SumSt.new (wo : World) : SumSt wo ((wo.alloc (.cells #[.int .i64 0, .int .i64 0] 68)).alloc (.cells #[.int .i64 4611686018427387904, .int .i64 4611686018427387904] 68)) 0 4611686018427387904 :=
  ⟨below_alloc (below_alloc (Below.refl _ _) _) _, blk_two1 _ _ _, blk_two2 _ _ _⟩
theorem SumSt.step {wo W W1 : World} {s l : Int} (h : SumSt wo W s l) (hb : Below W.heap.size W W1) : SumSt wo W1 s l :=
  ⟨below_then h.bel h.bel.size hb, (hb.block _ (Array.getElem?_eq_some_iff.1 h.wb).1).trans h.wb, (hb.block _ (Array.getElem?_eq_some_iff.1 h.lb).1).trans h.lb⟩
/-- The document's weights of plain numbers. -/
def dW (l : List Int) : List WtS := l.map fun x => ⟨x, 0⟩
theorem dW_len (l : List Int) : (dW l).length = l.length := by simp [dW]
theorem dW_snoc (l : List Int) (x : Int) : dW (l ++ [x]) = dW l ++ [⟨x, 0⟩] := by simp [dW]
theorem rd_dW {l : List Int} {k : Nat} (h : k < l.length) : rd_T68 (dW l) (k : Int) = ⟨rd l (k : Int), 0⟩ := by
  unfold rd_T68
  rw [Int.toNat_natCast, List.getD_eq_getElem?_getD, List.getElem?_eq_getElem (by rw [dW_len]; exact h), rd_get _ _ h]
  simp [dW]
theorem refW_dW (most : Int) (xA : List Int) (n : Nat) : refW most xA n = dW ((List.range n).map (refV most xA)) := by simp [refW, dW, List.map_map]
/-- A row of the projection fits a row just if it is that row's cut. -/
theorem fits_cut {sc on : List Int} (hs : Rise sc) (ho : Rise on) (hsub : ∀ v ∈ on, v ∈ sc) {x t : List Int} (hx : x.length = on.length) (ht : t.length = sc.length) : fits on sc x t = true ↔ pick t (on.map (idx sc)) = x := by
  rw [pick_look sc t on ht hsub]
  constructor
  · intro h
    have h2 := of_decide_eq_true h
    rw [← look_self ho.nodup hx]
    exact List.map_congr_left fun v hv => (h2 v hv (hsub v hv)).symm
  · intro h
    refine decide_eq_true fun v hv hv' => ?_
    rw [← h]
    exact look_map hv _
end Go.Proofs.YtlmkgghpaaadhaaGreatDoor.G

/- The document's Sum of weights, walked. -/
set_option linter.unusedVariables false
set_option linter.unusedSimpArgs false
namespace Go.Proofs.YtlmkgghpaaadhaaGreatDoor.G
open Go.RowKit Go.Proofs.YtlmkgghpaaadhaaGreatDoorW.PrintWords Go.Proofs.YtlmkgghpaaadhaaGreatDoorW.PrintLast Go.Proofs.YtlmkgghpaaadhaaGreatDoorW.PrintMore Go.Proofs.YtlmkgghpaaadhaaGreatDoor.PRefs

section
variable {A : Option Addr} {c : Nat} {sc : List Int} {A' : Option Addr} {c' : Nat} {L : List (List Int)} {A4 : Option Addr} {c4 : Nat} {ws : List Int} {Av : Option Addr} {cv : Nat} {vars : List Int} {w : World}
end
end Go.Proofs.YtlmkgghpaaadhaaGreatDoor.G

/- The document's Min of weights, walked. -/
set_option linter.unusedVariables false
set_option linter.unusedSimpArgs false
namespace Go.Proofs.YtlmkgghpaaadhaaGreatDoor.G
open Go.RowKit Go.Proofs.YtlmkgghpaaadhaaGreatDoorW.PrintWords Go.Proofs.YtlmkgghpaaadhaaGreatDoorW.PrintLast Go.Proofs.YtlmkgghpaaadhaaGreatDoorW.PrintMore Go.Proofs.YtlmkgghpaaadhaaGreatDoor.PRefs

/-- The least so far, in a box of two numbers. -/
structure MinSt (wo W : World) (m : Int) : Prop where
  bel : Below wo.heap.size wo W
  wb : W.heap[wo.heap.size]? = some (.cells #[.int .i64 m, .int .i64 0] 68 (0, 0))
theorem MinSt.new (wo : World) : MinSt wo (wo.alloc (.cells #[.int .i64 0, .int .i64 0] 68)) 0 := ⟨below_alloc (Below.refl _ _) _, heap_alloc_new wo _⟩
theorem MinSt.step {wo W W1 : World} {m : Int} (h : MinSt wo W m) (hb : Below W.heap.size W W1) : MinSt wo W1 m :=
  ⟨below_then h.bel h.bel.size hb, (hb.block _ (Array.getElem?_eq_some_iff.1 h.wb).1).trans h.wb⟩
theorem MinSt.put {wo W : World} {m : Int} (h : MinSt wo W m) (y : Int) : MinSt wo ((W.setCell ⟨wo.heap.size, 0, none⟩ (.int .i64 y)).setCell ⟨wo.heap.size, 1, none⟩ (.int .i64 0)) y :=
  ⟨(h.bel.setCell (p := ⟨wo.heap.size, 0, none⟩) (Nat.le_refl _) _).setCell (p := ⟨wo.heap.size, 1, none⟩) (Nat.le_refl _) _, blk2_s1 (blk2_s0 h.wb _) _⟩
section
variable {A : Option Addr} {c : Nat} {sc : List Int} {A' : Option Addr} {c' : Nat} {L : List (List Int)} {A4 : Option Addr} {c4 : Nat} {ws : List Int} {Av : Option Addr} {cv : Nat} {vars : List Int} {w : World}
end
end Go.Proofs.YtlmkgghpaaadhaaGreatDoor.G

/- weigh: what the law of sums calls. -/
set_option linter.unusedVariables false
set_option linter.unusedSimpArgs false
namespace Go.Proofs.YtlmkgghpaaadhaaGreatDoor.G
open Go.RowKit Go.Proofs.YtlmkgghpaaadhaaGreatDoorW.PrintWords Go.Proofs.YtlmkgghpaaadhaaGreatDoorW.PrintLast Go.Proofs.YtlmkgghpaaadhaaGreatDoorW.PrintMore Go.Proofs.YtlmkgghpaaadhaaGreatDoor.PRefs

theorem limits_any (w : World) : Calls Tryz.prog 13 #[] w fun e w' => e = .returned (.tuple #[.int .i64 4611686018427387904, .int .i64 9007199254740991]) ∧ Below w.heap.size w w' := by
  go_enter Tryz.func13, Tryz.ntmps13
  go_wp2
  go_ret2
  exact ⟨rfl, Below.refl _ _⟩
/-- The document's rows that weigh something, in a box. -/
structure DBx (W : World) (g : Nat) (A : Option Addr) (c n : Nat) (sc : List Int) (A' : Option Addr) (c' n' : Nat) (L : List (List Int)) (A4 : Option Addr) (c4 : Nat) (D : List WtS) : Prop where
  blk : W.heap[g]? = some (.cells #[.slice A n c, .slice A' n' c', .slice A4 n' c4] 34 (0, 0))
  rd : RelRd W A c sc A' c' L
  d : Kd.C KWt W A4 n' D
theorem DBx.step {W W1 : World} {g : Nat} {A : Option Addr} {c n : Nat} {sc : List Int} {A' : Option Addr} {c' n' : Nat} {L : List (List Int)} {A4 : Option Addr} {c4 : Nat} {D : List WtS} (h : DBx W g A c n sc A' c' n' L A4 c4 D) (hb : Below W.heap.size W W1) : DBx W1 g A c n sc A' c' n' L A4 c4 D :=
  ⟨(hb.block _ (Array.getElem?_eq_some_iff.1 h.blk).1).trans h.blk, h.rd.step hb, Kd.C_below h.d hb⟩
theorem DBx.new {w : World} {A : Option Addr} {c n : Nat} {sc : List Int} {A' : Option Addr} {c' n' : Nat} {L : List (List Int)} {A4 : Option Addr} {c4 : Nat} {D : List WtS} (h : RelRd w A c sc A' c' L) (hd : Kd.C KWt w A4 n' D) : DBx (w.alloc (.cells #[.slice A n c, .slice A' n' c', .slice A4 n' c4] 34)) w.heap.size A c n sc A' c' n' L A4 c4 D :=
  ⟨heap_alloc_new w _, h.step (below_alloc (Below.refl _ _) _), Kd.C_below hd (below_alloc (Below.refl _ _) _)⟩
section
variable {w : World} {A : Option Addr} {c : Nat} {sc : List Int} {A' : Option Addr} {c' : Nat} {L : List (List Int)} {Aw : Option Addr} {cw : Nat} {ws : List Int} {n n' m : Nat}
variable {A4 : Option Addr} {c4 : Nat}
theorem number_dw (h : RelRd w A c sc A' c' L) (h1 : sc.length = n) (h2 : L.length = n') (hD : Kd.C KWt w A4 n' (dW ws)) (hm : L.length ≤ 1000000) (hw : ws.length = L.length) :
    Calls Tryz.prog 16 #[.agg #[.slice A n c, .slice A' n' c', .slice A4 n' c4]] w fun e w' => ∃ Aw cw, e = .returned (.agg #[.slice A n c, .slice A' n' c', .slice Aw n' cw]) ∧ WRd w' A c sc A' c' L Aw cw ws ∧ Below w.heap.size w w' := by
  subst h1 h2
  have hl : (dW ws).length = L.length := by rw [dW_len, hw]
  have hM : (dW ws).map (fun x => x.f0) = ws := by rw [dW, List.map_map]; exact (List.map_congr_left fun _ _ => rfl).trans (List.map_id _)
  have hD' : Kd.C KWt w A4 (dW ws).length (dW ws) := by rw [hl]; exact hD
  have h1 := number_any (A := A) (c := c) (n := sc.length) (A' := A') (c' := c') (n' := L.length) (c4 := c4) hD' (by rw [hl]; exact hm) hM
  rw [hl] at h1
  refine h1.mono ?_
  rintro e w' ⟨Aw, cw, rfl, hR, hb⟩
  have h2 := Kd.R_reads' hR
  refine ⟨Aw, cw, by rw [hw], ⟨h.step hb, h2.2.2, h2.2.1⟩, hb⟩
theorem big_of {sch : List Int} {rows : List (List Int)} {xA : List Int} {s : List Int} (hs : smallS3 sch = s) {R : List (List Int)} (hR : smallRows3 s.length rows = R) {ws : List Int} (hw : (List.range R.length).map (refV 4611686018427387904 xA) = ws) : InW ws ∧ ws.length = R.length ∧ Sm s R := by
  subst hs hR
  refine ⟨fun x hx => ?_, by rw [← hw]; simp, sm_small sch rows⟩
  rw [← hw] at hx
  obtain ⟨i, _, rfl⟩ := List.mem_map.1 hx
  have := clampW_in (most := 4611686018427387904) (v := if i < xA.length then rd xA (i : Int) else 1) (by omega)
  unfold refV
  omega
set_option maxHeartbeats 8000000 in
set_option maxRecDepth 100000 in
/-- Plain weights are the document's. -/
theorem same_yes {B : Option Addr} {d : Nat} {B' : Option Addr} {d' : Nat} {B4 : Option Addr} {d4 : Nat} (h : WRd w A c sc A' c' L Aw cw ws) (h' : RelRd w B d sc B' d' L) (hD : Kd.C KWt w B4 n' (dW ws)) (hn : sc.length = n) (hn' : L.length = n') (hw : ws.length = n') (hs : sc.length ≤ 1000000) (hL : ∀ x ∈ L, x.length ≤ 1000000) (hm1 : L.length ≤ 1000000) :
    Calls Tryz.prog 19 #[.agg #[.slice A n c, .slice A' n' c', .slice Aw n' cw], .agg #[.slice B n d, .slice B' n' d', .slice B4 n' d4]] w fun e w' => e = .returned (.bool true) ∧ Below w.heap.size w w' := by
  subst hn hn'
  have HR := Aside0.mk (And.intro h (And.intro h' (And.intro hD (And.intro hw hL))))
  obtain ⟨W0, hW0⟩ : ∃ W0, (w.alloc (.cells #[.slice A sc.length c, .slice A' L.length c', .slice Aw L.length cw] 37)).alloc (.cells #[.slice B sc.length d, .slice B' L.length d', .slice B4 L.length d4] 34) = W0 := ⟨_, rfl⟩
  have hb0 : Below w.heap.size w W0 := by rw [← hW0]; exact below_alloc (below_alloc (Below.refl _ _) _) _
  have hk0 : W0.heap[w.heap.size]? = some (.cells #[.slice A sc.length c, .slice A' L.length c', .slice Aw L.length cw] 37 (0, 0)) := by rw [← hW0]; exact blk_two1 _ _ _
  have hz0 : W0.heap[w.heap.size + 1]? = some (.cells #[.slice B sc.length d, .slice B' L.length d', .slice B4 L.length d4] 34 (0, 0)) := by rw [← hW0]; exact blk_two2 _ _ _
  have H0 := Aside0.mk (And.intro hb0 (And.intro hk0 hz0))
  obtain ⟨q0, q1, q2⟩ := blk3_c hk0
  obtain ⟨r0, r1, r2⟩ := blk3_c hz0
  clear h h' hD hw hL hb0 hk0 hz0
  go_enter Tryz.func19, Tryz.ntmps19
  go_upto_block 0 with (go_at_call 29; refine (refsame_any (HR.out.1.rel.step H0.out.1) (HR.out.2.1.step H0.out.1) (by omega) (by omega) (fun x hx => by have := HR.out.2.2.2.2 x hx; omega) (fun x hx => by have := HR.out.2.2.2.2 x hx; omega) true (by simp)).mono ?_; rintro e w1 ⟨rfl, hb⟩; have HB1 := Aside0.mk hb; have q2' := cell_below hb q2; have r2' := cell_below hb r2; clear hb q0 q1 q2 r0 r1 r2)
  go_wp2_with fail
  go_loopw [5] (fun i W => ∃ k : Nat, k ≤ L.length ∧ i = .int .i64 k ∧ Aside0 (Below w1.heap.size w1 W)) (fun i _ => L.length - (intOf i).toNat)
  case atStart => exact ⟨0, Nat.zero_le _, rfl, ⟨Below.refl _ _⟩⟩
  case round =>
    obtain ⟨k, hk, rfl, HB⟩ := hrel
    have q2 := cell_below HB.out q2'
    have r2 := cell_below HB.out r2'
    have HBB := Aside0.mk (below_then (below_then H0.out.1 H0.out.1.size HB1.out) (Nat.le_trans H0.out.1.size HB1.out.size) HB.out)
    by_cases hlt : k < L.length
    · have hkl : (k : Int) < (L.length : Int) := by omega
      have hkw : (k : Int) < (ws.length : Int) := by rw [HR.out.2.2.2.1]; omega
      have HKW := Aside0.mk (show k < ws.length from by rw [HR.out.2.2.2.1]; exact hlt)
      obtain ⟨ad, hA, hx⟩ := at_int' HR.out.1.w HBB.out (k : Int) (by omega) hkw
      simp only [Int.toNat_natCast] at hx
      obtain ⟨ad2, hA4, he0, he1⟩ := at_T68 HR.out.2.2.1 (k : Int) (by omega) hkl
      rw [rd_dW HKW.out] at he0
      simp only [Int.toNat_natCast] at he0
      have hy := cell_below HBB.out he0
      subst hA hA4
      obtain ⟨z, hz⟩ : ∃ z, rd ws (k : Int) = z := ⟨_, rfl⟩
      rw [hz] at hx hy
      clear he0 he1 hz hkw q2' r2'
      go_upto_region 6 with fail
      go_quiet (fail)
      go_wp2
      go_roundw
      case measure => simp [intOf]; omega
      case rel => exact ⟨k + 1, by omega, by go_num, ⟨below_then HB.out HB.out.size (pw_below_drewN (Below.refl _ _) _)⟩⟩
    · have hkn : decide ((k : Int) < (L.length : Int)) = false := decide_eq_false (by omega)
      have hkn2 : decide (k < L.length) = false := decide_eq_false (by omega)
      go_wp2
      go_ret
      exact ⟨rfl, HBB.out⟩
end
end Go.Proofs.YtlmkgghpaaadhaaGreatDoor.G
