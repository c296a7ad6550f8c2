/- Several texts of this claim in one. -/
import Derived.Test.YtpimooejnpdlpaaGreatDoorSemi
import Derived.Test.YtpimooejnpdlpaaGreatDoorBox
/- join.Join: what goes together of both. -/
set_option linter.unusedVariables false
set_option linter.unusedSimpArgs false
namespace Go.Proofs.YtpimooejnpdlpaaGreatDoor.G
open Go.RowKit Go.Proofs.YtpimooejnpdlpaaGreatDoorW.PrintWords Go.Proofs.YtpimooejnpdlpaaGreatDoorW.PrintLast Go.Proofs.YtpimooejnpdlpaaGreatDoorW.PrintMore

end Go.Proofs.YtpimooejnpdlpaaGreatDoor.G

/- The package join at right relations: Join, Semijoin, Agree, All; literals. -/
set_option linter.unusedVariables false
set_option linter.unusedSimpArgs false
namespace Go.Proofs.YtpimooejnpdlpaaGreatDoor.G
open Go.RowKit Go.Proofs.YtpimooejnpdlpaaGreatDoorW.PrintWords Go.Proofs.YtpimooejnpdlpaaGreatDoorW.PrintLast Go.Proofs.YtpimooejnpdlpaaGreatDoorW.PrintMore Go.Proofs.YtpimooejnpdlpaaGreatDoor.PRefs

/-- A right relation of some size. -/
structure Rt (sc : List Int) (L : List (List Int)) : Prop where
  r : RightP sc L
  s : sc.length ≤ 10000000
  l : L.length ≤ 20000
  i : InR L
theorem Rt.x {sc : List Int} {L : List (List Int)} (h : Rt sc L) : ∀ x ∈ L, x.length ≤ 100000000 := fun x hx => by rw [h.r.2.1 x hx]; have := h.s; omega
section
variable {w : World} {A : Option Addr} {c : Nat} {sc : List Int} {A' : Option Addr} {c' : Nat} {L : List (List Int)} {B : Option Addr} {d : Nat} {sd : List Int} {B' : Option Addr} {d' : Nat} {M : List (List Int)}
theorem project_rt {A2 : Option Addr} {c2 : Nat} {vars : List Int} (h : RelRd w A c sc A' c' L) (ht : Rt sc L) (hr2 : Kd.C KI w A2 vars.length vars) (hm2 : vars.length ≤ 10000000) {r : List Int × List (List Int)} (hP : projRel sc L vars = r) :
    Calls Tryz.prog 39 #[.agg #[.slice A sc.length c, .slice A' L.length c'], .slice A2 vars.length c2] w fun e w' => RelTo w w' e r.1 r.2 := by
  have h1 := ht.s
  have h2 := ht.l
  refine (project_any A c sc A' c' L A2 c2 vars w h.row h.cap h.rows hr2 (by omega) (by omega) (by omega)).mono ?_
  rintro e w' ⟨v, rfl, hv, hb⟩
  rw [hP] at hv
  obtain ⟨A, c, A', c', rfl, h⟩ := hv.rd
  exact ⟨A, c, A', c', rfl, h, hb⟩
theorem same_rt (h : RelRd w A c sc A' c' L) (hl : L.length ≤ 1000000000) (h' : RelRd w B d sd B' d' M) (b : Bool) (hb : decide (sc = sd ∧ L = M) = b) :
    Calls Tryz.prog 38 #[.agg #[.slice A sc.length c, .slice A' L.length c'], .agg #[.slice B sd.length d, .slice B' M.length d']] w fun e w' => e = .returned (.bool b) ∧ Below w.heap.size w w' :=
  same_any A c sc A' c' L B d sd B' d' M w h.row h.rows h'.row h'.rows hl b hb
set_option maxHeartbeats 4000000 in
set_option maxRecDepth 100000 in
theorem agree_rt (h : RelRd w A c sc A' c' L) (ht : Rt sc L) (h' : RelRd w B d sd B' d' M) (ht' : Rt sd M) (b : Bool) (hb : decide (projRel sc L sd = projRel sd M sc) = b) :
    Calls Tryz.prog 23 #[.agg #[.slice A sc.length c, .slice A' L.length c'], .agg #[.slice B sd.length d, .slice B' M.length d']] w fun e w' => e = .returned (.bool b) ∧ Below w.heap.size w w' := by
  have HR := Aside0.mk (And.intro h h')
  have HB := Aside0.mk (show ∀ (x y : List Int × List (List Int)), projRel sc L sd = x → projRel sd M sc = y → decide (x.1 = y.1 ∧ x.2 = y.2) = b from fun x y hx hy => by
    rw [← hb, hx, hy, decide_eq_decide]; exact Prod.ext_iff.symm)
  have hs := ht.s
  have hs' := ht'.s
  have hle : (projRel sc L sd).2.length ≤ 20000 := Nat.le_trans (cutRows_len _ _ _) ht.l
  have HT := Aside0.mk (And.intro ht ht')
  clear h h' hb ht ht'
  obtain ⟨⟨P1, P2⟩, hP⟩ : ∃ r, projRel sc L sd = r := ⟨_, rfl⟩
  obtain ⟨⟨Q1, Q2⟩, hQ⟩ : ∃ r, projRel sd M sc = r := ⟨_, rfl⟩
  rw [hP] at hle
  have HPQ := Aside0.mk (And.intro hP (And.intro hQ (HB.out _ _ hP hQ)))
  clear hP hQ HB
  obtain ⟨W0, hW0⟩ : ∃ W0, (w.alloc (.cells #[.slice A sc.length c, .slice A' L.length c'] 39)).alloc (.cells #[.slice B sd.length d, .slice B' M.length d'] 39) = W0 := ⟨_, rfl⟩
  have hbe : Below w.heap.size w W0 := by rw [← hW0]; exact below_alloc (below_alloc (Below.refl _ _) _) _
  have hk0 : W0.heap[w.heap.size]? = some (.cells #[.slice A sc.length c, .slice A' L.length c'] 39 (0, 0)) := by
    rw [← hW0]; exact (Below.heap_alloc _ _ _ (by simp)).trans (heap_alloc_new w _)
  have hk1 : W0.heap[w.heap.size + 1]? = some (.cells #[.slice B sd.length d, .slice B' M.length d'] 39 (0, 0)) := by
    rw [← hW0]
    have := heap_alloc_new (w.alloc (.cells #[.slice A sc.length c, .slice A' L.length c'] 39)) (.cells #[.slice B sd.length d, .slice B' M.length d'] 39)
    rwa [World.size_alloc] at this
  have HB0 := Aside0.mk hbe
  have r0 := blk2_c0 hk0
  have r1 := blk2_c1 hk0
  have r2 := blk2_c0 hk1
  have r3 := blk2_c1 hk1
  have hS := S4.start r0 r1 r2 r3
  have HSD := Aside0.mk (S4.step hS (below_drew (Below.refl _ _)))
  clear hk0 hk1 hbe
  go_enter Tryz.func23, Tryz.ntmps23
  go_wp2
  clear hW0
  go_region_held3 (fun W => W.cell? ⟨w.heap.size, 0, none⟩ = some (.slice A sc.length c) ∧ W.cell? ⟨w.heap.size, 1, none⟩ = some (.slice A' L.length c') ∧ W.cell? ⟨w.heap.size + 1, 0, none⟩ = some (.slice B sd.length d) ∧ W.cell? ⟨w.heap.size + 1, 1, none⟩ = some (.slice B' M.length d') ∧ Below W0.heap.size W0 W)
      (first | with_reducible exact HS4A.out | with_reducible exact HS3A.out | with_reducible exact HS2A.out | with_reducible exact S4.step (by assumption) (below_alloc (Below.refl _ _) _) | with_reducible exact S4.step (by assumption) (below_drew (Below.refl _ _)))
      (first
        | (have hgd := HS3A; clear hgd; go_at_call 38; refine (same_rt (H2.out.step hb3') (by omega) H3.out b HPQ.out.2.2).mono ?_; rintro e w4 ⟨rfl, hb4⟩; have hS4 := S4.step (by assumption) hb4; have HS4A := Aside0.mk hS4; clear hS4 hb4)
        | (have hgd := HS2A; clear hgd; go_at_call 39; refine (project_rt ((HR.out.2.step HB0.out).step (S4.of (by assumption))) HT.out.2 ((HR.out.1.step HB0.out).step (S4.of (by assumption))).row (by omega) HPQ.out.2.1).mono ?_; rintro e w3 ⟨A3, c3, D3, d3, rfl, hr3, hb3⟩; have hS3 := S4.step (by assumption) hb3; have HS3A := Aside0.mk hS3; have H3 := Aside0.mk hr3; have hb3' : Below w2.heap.size w2 w3 := (by first | exact hb3 | exact below_then (below_drew (Below.refl _ _)) (Nat.le_refl _) hb3); clear hS3 hr3 hb3)
        | (go_at_call 39; refine (project_rt ((HR.out.1.step HB0.out).step (S4.of (by assumption))) HT.out.1 ((HR.out.2.step HB0.out).step (S4.of (by assumption))).row (by omega) HPQ.out.1).mono ?_; rintro e w2 ⟨A2, c2, D2, d2, rfl, hr2, hb2⟩; have hS2 := S4.step (by assumption) hb2; have HS2A := Aside0.mk hS2; have H2 := Aside0.mk hr2; clear hS2 hr2 hb2))
  all_goals
    go_wp2
    go_ret
    exact ⟨rfl, below_then HB0.out HB0.out.size (S4.of HS4A.out)⟩
end

/-! literals -/
theorem lit_ints (w : World) (xs : List Int) (hm : xs.length ≤ 1000000000) : Kd.C KI (w.alloc (.cells (xs.map (Value.int .i64)).toArray 3)) (some ⟨w.heap.size, 0, none⟩) xs.length xs := by
  obtain ⟨A, c, e, _, h⟩ := Kd.R_reads (lit_row w xs 0 (Nat.zero_le _) hm)
  injection e with e
  rw [e]; exact h
end Go.Proofs.YtpimooejnpdlpaaGreatDoor.G

/- join.All: what goes together of all. -/
set_option linter.unusedVariables false
set_option linter.unusedSimpArgs false
namespace Go.Proofs.YtpimooejnpdlpaaGreatDoor.G
open Go.RowKit Go.Proofs.YtpimooejnpdlpaaGreatDoorW.PrintWords Go.Proofs.YtpimooejnpdlpaaGreatDoorW.PrintLast Go.Proofs.YtpimooejnpdlpaaGreatDoorW.PrintMore Go.Proofs.YtpimooejnpdlpaaGreatDoor.PRefs

theorem RelM.of {w : World} {base : Nat} {v : Value} {r : List Int × List (List Int)} (h : RelM w base v r) : ∃ A c A' c', v = .agg #[.slice A r.1.length c, .slice A' r.2.length c'] ∧ RelM w base (.agg #[.slice A r.1.length c, .slice A' r.2.length c']) r := by
  obtain ⟨A, c, A', c', rfl, _⟩ := h.rd
  exact ⟨A, c, A', c', rfl, h⟩
theorem getD_T (l : List S39) (k : Nat) (h : k < l.length) : rd_T39 l (k : Int) = l[k] := by
  unfold rd_T39
  rw [Int.toNat_natCast, List.getD_eq_getElem?_getD, List.getElem?_eq_getElem h]; rfl
section
variable {w : World} {A : Option Addr} {c : Nat} {sc : List Int} {A' : Option Addr} {c' : Nat} {L : List (List Int)} {B : Option Addr} {d : Nat} {sd : List Int} {B' : Option Addr} {d' : Nat} {M : List (List Int)}
end

end Go.Proofs.YtpimooejnpdlpaaGreatDoor.G
