/- Several texts of this claim in one. -/
import Derived.Test.YtlmkgghpaaadhaaGreatDoorNC
import Derived.Test.YtlmkgghpaaadhaaGreatDoorMZ
import Derived.Test.YtlmkgghpaaadhaaGreatDoorMU
import Derived.Test.YtlmkgghpaaadhaaGreatDoorNA
/- The document's products of weights, walked. -/
set_option linter.unusedVariables false
set_option linter.unusedSimpArgs false
namespace Go.Proofs.YtlmkgghpaaadhaaGreatDoor.G
open Go.RowKit Go.Proofs.YtlmkgghpaaadhaaGreatDoorW.PrintWords Go.Proofs.YtlmkgghpaaadhaaGreatDoorW.PrintLast Go.Proofs.YtlmkgghpaaadhaaGreatDoorW.PrintMore Go.Proofs.YtlmkgghpaaadhaaGreatDoor.PRefs

theorem fits4_same (n : Int) {b : Bool} (hb : decide (n.natAbs ≤ 4611686018427387904) = b) (w : World) : Calls Tryz.prog 41 #[.int .i64 n, .int .i64 4611686018427387904] w fun e w' => e = .returned (.bool b) ∧ w = w' := by
  by_cases h1 : -4611686018427387904 ≤ n
  · have g1 : decide (-4611686018427387904 ≤ n) = true := decide_eq_true h1
    by_cases h2 : n ≤ 4611686018427387904
    · have g2 : decide (n ≤ 4611686018427387904) = true := decide_eq_true h2
      obtain rfl : b = true := by rw [← hb]; exact decide_eq_true (by omega)
      clear hb
      go_enter Tryz.func41, Tryz.ntmps41
      go_wp2
      go_ret
      exact ⟨rfl, rfl⟩
    · have g2 : decide (n ≤ 4611686018427387904) = false := decide_eq_false h2
      obtain rfl : b = false := by rw [← hb]; exact decide_eq_false (by omega)
      clear hb
      go_enter Tryz.func41, Tryz.ntmps41
      go_wp2
      go_ret
      exact ⟨rfl, rfl⟩
  · have g1 : decide (-4611686018427387904 ≤ n) = false := decide_eq_false h1
    obtain rfl : b = false := by rw [← hb]; exact decide_eq_false (by omega)
    clear hb
    go_enter Tryz.func41, Tryz.ntmps41
    go_wp2
    go_ret
    exact ⟨rfl, rfl⟩
theorem prod_fit {a b : Int} (ha : a ≠ 0) : (b.natAbs : Int) ≤ 4611686018427387904 / (a.natAbs : Int) ↔ (a * b).natAbs ≤ 4611686018427387904 := by
  rw [Int.le_ediv_iff_mul_le (by omega), Int.natAbs_mul, Nat.mul_comm]
  constructor
  · intro h
    have h2 : ((b.natAbs * a.natAbs : Nat) : Int) ≤ 4611686018427387904 := by rw [Int.natCast_mul]; exact h
    omega
  · intro h
    have h2 : ((b.natAbs * a.natAbs : Nat) : Int) ≤ 4611686018427387904 := by omega
    rw [Int.natCast_mul] at h2; exact h2
/-- The document's product of two numbers. -/
theorem prod4_yes (a b : Int) (ha : a.natAbs ≤ 4611686018427387904) (hb : b.natAbs ≤ 4611686018427387904) {c : Int} (hc : a * b = c) (h : (a * b).natAbs ≤ 4611686018427387904) (w : World) : Calls Tryz.prog 71 #[.int .i64 a, .int .i64 b, .int .i64 4611686018427387904] w fun e w' => e = .returned (.tuple #[.int .i64 c, .bool true]) ∧ w = w' := by
  have hw : wrap64 (a * b) = c := by rw [Go.IntWalk.wrap64_in _ (by omega)]; exact hc
  have hw2 : IntKind.i64.wrap (a * b) = c := by rw [Go.IntWalk.i64_in _ (by omega)]; exact hc
  by_cases h0 : a = 0
  · subst h0
    obtain rfl : c = 0 := by rw [← hc]; simp
    clear hc h hw hw2
    go_enter Tryz.func71, Tryz.ntmps71
    go_wp2
    go_ret2
    exact ⟨by simp, rfl⟩
  · have hne : (a == 0) = false := by simpa using h0
    have hne2 : (a != 0) = true := by simpa using h0
    obtain ⟨x, hx⟩ : ∃ x, (a.natAbs : Int) = x := ⟨_, rfl⟩
    obtain ⟨y, hy⟩ : ∃ y, (b.natAbs : Int) = y := ⟨_, rfl⟩
    have HSA := Aside0.mk (size4_same a ha)
    have HSB := Aside0.mk (size4_same b hb)
    have hq := (prod_fit (b := b) h0).2 h
    rw [hx] at HSA hq
    rw [hy] at HSB hq
    have hx1 : 1 ≤ x := by omega
    have hx0 : (x == 0) = false := beq_eq_false_iff_ne.2 (by omega)
    have hg : decide (4611686018427387904 / x < y) = false := decide_eq_false (Int.not_lt.2 hq)
    have hx2 : x ≤ 4611686018427387904 := by omega
    clear hc h hx hy hq h0 ha hb
    go_enter Tryz.func71, Tryz.ntmps71
    go_wp2_with (first | (go_at_call 49; (with_reducible refine (HSB.out _).mono ?_); rintro e w' ⟨rfl, rfl⟩) | (go_at_call 49; (with_reducible refine (HSA.out _).mono ?_); rintro e w' ⟨rfl, rfl⟩))
    go_ret2
    exact ⟨by simp [hw], rfl⟩
theorem prod4_no (a b : Int) (ha : a.natAbs ≤ 4611686018427387904) (hb : b.natAbs ≤ 4611686018427387904) (h : ¬ (a * b).natAbs ≤ 4611686018427387904) (w : World) : Calls Tryz.prog 71 #[.int .i64 a, .int .i64 b, .int .i64 4611686018427387904] w fun e w' => e = .returned (.tuple #[.int .i64 0, .bool false]) ∧ w = w' := by
  have h0 : a ≠ 0 := fun e => by subst e; simp at h
  have hne : (a == 0) = false := by simpa using h0
  have hne2 : (a != 0) = true := by simpa using h0
  obtain ⟨x, hx⟩ : ∃ x, (a.natAbs : Int) = x := ⟨_, rfl⟩
  obtain ⟨y, hy⟩ : ∃ y, (b.natAbs : Int) = y := ⟨_, rfl⟩
  have HSA := Aside0.mk (size4_same a ha)
  have HSB := Aside0.mk (size4_same b hb)
  have hq : ¬ (b.natAbs : Int) ≤ 4611686018427387904 / (a.natAbs : Int) := fun h' => h ((prod_fit (b := b) h0).1 h')
  rw [hx] at HSA hq
  rw [hy] at HSB hq
  have hx1 : 1 ≤ x := by omega
  have hx0 : (x == 0) = false := beq_eq_false_iff_ne.2 (by omega)
  have hg : decide (4611686018427387904 / x < y) = true := decide_eq_true (Int.not_le.1 hq)
  have hx2 : x ≤ 4611686018427387904 := by omega
  clear h hx hy hq h0 ha hb
  go_enter Tryz.func71, Tryz.ntmps71
  go_wp2_with (first | (go_at_call 49; (with_reducible refine (HSB.out _).mono ?_); rintro e w' ⟨rfl, rfl⟩) | (go_at_call 49; (with_reducible refine (HSA.out _).mono ?_); rintro e w' ⟨rfl, rfl⟩))
  go_ret2
  exact ⟨by simp, rfl⟩
end Go.Proofs.YtlmkgghpaaadhaaGreatDoor.G

/- The document's product of two weights, walked. -/
set_option linter.unusedVariables false
set_option linter.unusedSimpArgs false
namespace Go.Proofs.YtlmkgghpaaadhaaGreatDoor.G
open Go.RowKit Go.Proofs.YtlmkgghpaaadhaaGreatDoorW.PrintWords Go.Proofs.YtlmkgghpaaadhaaGreatDoorW.PrintLast Go.Proofs.YtlmkgghpaaadhaaGreatDoorW.PrintMore Go.Proofs.YtlmkgghpaaadhaaGreatDoor.PRefs
set_option maxHeartbeats 8000000 in
set_option maxRecDepth 100000 in
theorem times4_yes (a b : Int) (ha : a.natAbs ≤ 4611686018427387904) (hb : b.natAbs ≤ 4611686018427387904) {v : Int} (hv : a * b = v) (h : (a * b).natAbs ≤ 4611686018427387904) (w : World) : Calls Tryz.prog 42 #[.agg #[.int .i64 a, .int .i64 0], .agg #[.int .i64 b, .int .i64 0], .int .i64 4611686018427387904] w fun e w' => e = .returned (.tuple #[.agg #[.int .i64 v, .int .i64 0], .bool true]) ∧ Below w.heap.size w w' := by
  have H1 := Aside0.mk (prod4_yes a b ha hb hv h)
  have H2 := Aside0.mk (prod4_yes 0 0 (by decide) (by decide) (c := 0) (by simp) (by decide))
  have H3 := Aside0.mk (prod4_yes a 0 ha (by decide) (c := 0) (by simp) (by simp))
  have H4 := Aside0.mk (prod4_yes 0 b (by decide) hb (c := 0) (by simp) (by simp))
  have HFV := Aside0.mk (show decide (v.natAbs ≤ 4611686018427387904) = true from by rw [← hv]; exact decide_eq_true h)
  have hvb : v.natAbs ≤ 4611686018427387904 := by rw [← hv]; exact h
  have hvw : wrap64 (v - 0) = v := by rw [Int.sub_zero]; exact Go.IntWalk.wrap64_in _ (by omega)
  have hvw2 : wrap64 v = v := Go.IntWalk.wrap64_in _ (by omega)
  clear hvb
  clear ha hb h hv
  obtain ⟨W0, hW0⟩ : ∃ W0, ((w.alloc (.cells #[.int .i64 a, .int .i64 0] 68)).alloc (.cells #[.int .i64 b, .int .i64 0] 68)).alloc (.cells #[.int .i64 0, .int .i64 0] 68) = W0 := ⟨_, rfl⟩
  have h0 : Below w.heap.size w W0 ∧ W0.heap[w.heap.size]? = some (.cells #[.int .i64 a, .int .i64 0] 68 (0, 0)) ∧ W0.heap[w.heap.size + 1]? = some (.cells #[.int .i64 b, .int .i64 0] 68 (0, 0)) ∧ W0.heap[w.heap.size + 1 + 1]? = some (.cells #[.int .i64 0, .int .i64 0] 68 (0, 0)) ∧ W0.heap.size = w.heap.size + 3 := by
    rw [← hW0]
    refine ⟨below_alloc (below_alloc (below_alloc (Below.refl _ _) _) _) _, (Below.heap_alloc _ _ _ (by simp; omega)).trans (blk_two1 _ _ _), (Below.heap_alloc _ _ _ (by simp)).trans (blk_two2 _ _ _), ?_, by simp⟩
    have h := heap_alloc_new ((w.alloc (.cells #[.int .i64 a, .int .i64 0] 68)).alloc (.cells #[.int .i64 b, .int .i64 0] 68)) (.cells #[.int .i64 0, .int .i64 0] 68)
    simpa using h
  have H0 := Aside0.mk h0
  have a0 := blk2_c0 h0.2.1
  have a1 := blk2_c1 h0.2.1
  have b0 := blk2_c0 h0.2.2.1
  have b1 := blk2_c1 h0.2.2.1
  clear h0
  go_enter Tryz.func42, Tryz.ntmps42
  go_upto_region 2 with (go_at_call 71; (with_reducible refine (H1.out _).mono ?_); rintro e w' ⟨rfl, rfl⟩)
  go_upto_region 3 with (go_at_call 71; (with_reducible refine (H2.out _).mono ?_); rintro e w' ⟨rfl, rfl⟩)
  go_upto_region 4 with (go_at_call 71; (with_reducible refine (H3.out _).mono ?_); rintro e w' ⟨rfl, rfl⟩)
  go_upto_region 5 with (go_at_call 71; (with_reducible refine (H4.out _).mono ?_); rintro e w' ⟨rfl, rfl⟩)
  go_upto_region 6 with fail
  clear hW0
  have HL := Aside0.mk (show (W0.alloc (.cells #[.int .i64 v, .int .i64 0] 68)).heap[W0.heap.size]? = some (.cells #[.int .i64 v, .int .i64 0] 68 (0, 0)) from heap_alloc_new W0 _)
  have HBW := Aside0.mk (show Below W0.heap.size W0 (W0.alloc (.cells #[.int .i64 v, .int .i64 0] 68)) from below_alloc (Below.refl _ _) _)
  generalize W0.alloc (.cells #[.int .i64 v, .int .i64 0] 68) = wq at HL HBW ⊢
  have HB6 := Aside0.mk (below_then HBW.out HBW.out.size (below_drew (Below.refl wq.heap.size wq)))
  have hL6 := ((below_drew (Below.refl wq.heap.size wq)).block _ (Array.getElem?_eq_some_iff.1 HL.out).1).trans HL.out
  have hT6 := (HB6.out.block _ (Array.getElem?_eq_some_iff.1 H0.out.2.2.2.1).1).trans H0.out.2.2.2.1
  generalize W0.heap.size = g16 at hL6 ⊢
  have e0 : World.cell? wq.drew ⟨g16, 0, none⟩ = some (.int .i64 v) := blk2_c0 hL6
  have e1 : World.cell? wq.drew ⟨g16, 1, none⟩ = some (.int .i64 0) := blk2_c1 hL6
  have hs0 := blk2_s0 hT6 (.int .i64 v)
  have HT6 := Aside0.mk (And.intro (blk2_c0 hT6) (And.intro (blk_fr (i := 0) hT6) (And.intro (blk2_c1 hs0) (And.intro (blk_fr (i := 1) hs0) (blk2_s1 hs0 (.int .i64 0))))))
  clear hs0 hT6 hL6 HL a0 a1 b0 b1
  refine start_ (n := 25) (S := fun w' => w'.cell? ⟨g16, 0, none⟩ = some (.int .i64 v) ∧ w'.cell? ⟨g16, 1, none⟩ = some (.int .i64 0)) (ds := [23, 24]) #[false, false, false, false, false, false, false, false, false, false, false, false, false, false, false, false, false, false, false, false, false, false, false, false, false] (by kernel_rfl) rfl rfl ⟨e0, e1⟩ (fun hHeld => ?_)
  generalize hD : wq.drew = w17 at *
  clear hD
  refine take_ (i := 0) (N := some 60) (v := ?_) (a' := ?_) #[true, false, false, false, false, false, false, false, false, false, false, false, false, false, false, false, false, false, false, false, false, false, false, false, false] rfl rfl (by kernel_rfl) (fun _ _ _ h => h) (Or.inl ⟨by rfl, ?_⟩) hHeld ?_ ?_
  rotate_left
  · rintro w' ⟨s0, s1⟩
    go_simp
    with_reducible rfl
  rotate_left
  · simp only [Act.put, List.setIfInBounds_toArray, List.set_cons_zero, List.set_cons_succ, i64_w, i32_w]
    rfl
  refine pure_ (i := 1) (N := some 61) (v := ?_) (a' := ?_) #[true, true, false, false, false, false, false, false, false, false, false, false, false, false, false, false, false, false, false, false, false, false, false, false, false] rfl rfl (by kernel_rfl) (fun _ _ _ h => h) (Or.inl ⟨by rfl, ?_⟩) ?_ ?_
  rotate_left
  · intro w'
    go_simp
    with_reducible rfl
  rotate_left
  · simp only [Act.put, List.setIfInBounds_toArray, List.set_cons_zero, List.set_cons_succ, i64_w, i32_w]
    rfl
  refine pure_ (i := 2) (N := some 62) (v := ?_) (a' := ?_) #[true, true, true, false, false, false, false, false, false, false, false, false, false, false, false, false, false, false, false, false, false, false, false, false, false] rfl rfl (by kernel_rfl) (fun _ _ _ h => h) (Or.inl ⟨by rfl, ?_⟩) ?_ ?_
  rotate_left
  · intro w'
    go_simp
    with_reducible rfl
  rotate_left
  · simp only [Act.put, List.setIfInBounds_toArray, List.set_cons_zero, List.set_cons_succ, i64_w, i32_w]
    rfl
  refine pure_ (i := 3) (N := some 63) (v := ?_) (a' := ?_) #[true, true, true, true, false, false, false, false, false, false, false, false, false, false, false, false, false, false, false, false, false, false, false, false, false] rfl rfl (by kernel_rfl) (fun _ _ _ h => h) (Or.inl ⟨by rfl, ?_⟩) ?_ ?_
  rotate_left
  · intro w'
    go_simp
    with_reducible rfl
  rotate_left
  · simp only [Act.put, List.setIfInBounds_toArray, List.set_cons_zero, List.set_cons_succ, i64_w, i32_w]
    rfl
  refine pure_ (i := 4) (N := some 64) (v := ?_) (a' := ?_) #[true, true, true, true, true, false, false, false, false, false, false, false, false, false, false, false, false, false, false, false, false, false, false, false, false] rfl rfl (by kernel_rfl) (fun _ _ _ h => h) (Or.inl ⟨by rfl, ?_⟩) ?_ ?_
  rotate_left
  · intro w'
    go_simp
    with_reducible rfl
  rotate_left
  · simp only [Act.put, List.setIfInBounds_toArray, List.set_cons_zero, List.set_cons_succ, i64_w, i32_w]
    rfl
  refine pure_ (i := 5) (N := some 65) (v := ?_) (a' := ?_) #[true, true, true, true, true, true, false, false, false, false, false, false, false, false, false, false, false, false, false, false, false, false, false, false, false] rfl rfl (by kernel_rfl) (fun _ _ _ h => h) (Or.inl ⟨by rfl, ?_⟩) ?_ ?_
  rotate_left
  · intro w'
    go_simp
    with_reducible rfl
  rotate_left
  · simp only [Act.put, List.setIfInBounds_toArray, List.set_cons_zero, List.set_cons_succ, i64_w, i32_w]
    rfl
  refine pure_ (i := 6) (N := some 66) (v := ?_) (a' := ?_) #[true, true, true, true, true, true, true, false, false, false, false, false, false, false, false, false, false, false, false, false, false, false, false, false, false] rfl rfl (by kernel_rfl) (fun _ _ _ h => h) (Or.inl ⟨by rfl, ?_⟩) ?_ ?_
  rotate_left
  · intro w'
    go_simp
    with_reducible rfl
  rotate_left
  · simp only [Act.put, List.setIfInBounds_toArray, List.set_cons_zero, List.set_cons_succ, i64_w, i32_w]
    rfl
  refine pure_ (i := 7) (N := some 67) (v := ?_) (a' := ?_) #[true, true, true, true, true, true, true, true, false, false, false, false, false, false, false, false, false, false, false, false, false, false, false, false, false] rfl rfl (by kernel_rfl) (fun _ _ _ h => h) (Or.inl ⟨by rfl, ?_⟩) ?_ ?_
  rotate_left
  · intro w'
    go_simp
    with_reducible rfl
  rotate_left
  · simp only [Act.put, List.setIfInBounds_toArray, List.set_cons_zero, List.set_cons_succ, i64_w, i32_w]
    rfl
  refine pure_ (i := 8) (N := some 68) (v := ?_) (a' := ?_) #[true, true, true, true, true, true, true, true, true, false, false, false, false, false, false, false, false, false, false, false, false, false, false, false, false] rfl rfl (by kernel_rfl) (fun _ _ _ h => h) (Or.inl ⟨by rfl, ?_⟩) ?_ ?_
  rotate_left
  · intro w'
    go_simp
    with_reducible rfl
  rotate_left
  · simp only [Act.put, List.setIfInBounds_toArray, List.set_cons_zero, List.set_cons_succ, i64_w, i32_w]
    rfl
  refine pure_ (i := 9) (N := some 69) (v := ?_) (a' := ?_) #[true, true, true, true, true, true, true, true, true, true, false, false, false, false, false, false, false, false, false, false, false, false, false, false, false] rfl rfl (by kernel_rfl) (fun _ _ _ h => h) (Or.inl ⟨by rfl, ?_⟩) ?_ ?_
  rotate_left
  · intro w'
    go_simp
    with_reducible rfl
  rotate_left
  · simp only [Act.put, List.setIfInBounds_toArray, List.set_cons_zero, List.set_cons_succ, i64_w, i32_w]
    rfl
  refine pure_ (i := 10) (N := some 70) (v := ?_) (a' := ?_) #[true, true, true, true, true, true, true, true, true, true, true, false, false, false, false, false, false, false, false, false, false, false, false, false, false] rfl rfl (by kernel_rfl) (fun _ _ _ h => h) (Or.inl ⟨by rfl, ?_⟩) ?_ ?_
  rotate_left
  · intro w'
    go_simp
    with_reducible rfl
  rotate_left
  · simp only [Act.put, List.setIfInBounds_toArray, List.set_cons_zero, List.set_cons_succ, i64_w, i32_w]
    rfl
  refine pure_ (i := 11) (N := some 71) (v := ?_) (a' := ?_) #[true, true, true, true, true, true, true, true, true, true, true, true, false, false, false, false, false, false, false, false, false, false, false, false, false] rfl rfl (by kernel_rfl) (fun _ _ _ h => h) (Or.inl ⟨by rfl, ?_⟩) ?_ ?_
  rotate_left
  · intro w'
    go_simp
    with_reducible rfl
  rotate_left
  · simp only [Act.put, List.setIfInBounds_toArray, List.set_cons_zero, List.set_cons_succ, i64_w, i32_w]
    rfl
  refine pure_ (i := 12) (N := some 72) (v := ?_) (a' := ?_) #[true, true, true, true, true, true, true, true, true, true, true, true, true, false, false, false, false, false, false, false, false, false, false, false, false] rfl rfl (by kernel_rfl) (fun _ _ _ h => h) (Or.inl ⟨by rfl, ?_⟩) ?_ ?_
  rotate_left
  · intro w'
    go_simp
    with_reducible rfl
  rotate_left
  · simp only [Act.put, List.setIfInBounds_toArray, List.set_cons_zero, List.set_cons_succ, i64_w, i32_w]
    rfl
  refine take_ (i := 13) (N := some 73) (v := ?_) (a' := ?_) #[true, true, true, true, true, true, true, true, true, true, true, true, true, true, false, false, false, false, false, false, false, false, false, false, false] rfl rfl (by kernel_rfl) (fun _ _ _ h => h) (Or.inl ⟨by rfl, ?_⟩) hHeld ?_ ?_
  rotate_left
  · rintro w' ⟨s0, s1⟩
    go_simp
    with_reducible rfl
  rotate_left
  · simp only [Act.put, List.setIfInBounds_toArray, List.set_cons_zero, List.set_cons_succ, i64_w, i32_w]
    rfl
  refine pure_ (i := 14) (N := some 74) (v := ?_) (a' := ?_) #[true, true, true, true, true, true, true, true, true, true, true, true, true, true, true, false, false, false, false, false, false, false, false, false, false] rfl rfl (by kernel_rfl) (fun _ _ _ h => h) (Or.inl ⟨by rfl, ?_⟩) ?_ ?_
  rotate_left
  · intro w'
    go_simp
    with_reducible rfl
  rotate_left
  · simp only [Act.put, List.setIfInBounds_toArray, List.set_cons_zero, List.set_cons_succ, i64_w, i32_w]
    rfl
  refine one_ (i := 15) (N := some 75) #[true, true, true, true, true, true, true, true, true, true, true, true, true, true, true, true, false, false, false, false, false, false, false, false, false] rfl rfl (by kernel_rfl) (by decide) (fun K hK => ?_)
  refine goes_ Tryz.func41 (by kernel_rfl) rfl #[.int .i64 v, .int .i64 4611686018427387904] (by rfl) rfl rfl (by (try simp only [List.map_toArray, List.map_cons, List.map_nil]); first | done | rfl) ?_
  refine (fits4_same v (HFV.out) _).mono ?_
  rintro e w' ⟨rfl, rfl⟩
  refine ⟨_, rfl, ?_⟩
  refine hK.out _ _ ⟨e0, e1⟩ (fun hHeld => ?_)
  clear hK K
  refine norm_ (a' := ?_) ?_ ?_
  rotate_left
  · show Act.put _ (some 75) _ = _
    simp only [Act.put, List.setIfInBounds_toArray, List.set_cons_zero, List.set_cons_succ, i64_w, i32_w]
    rfl
  refine pure_ (i := 16) (N := some 76) (v := ?_) (a' := ?_) #[true, true, true, true, true, true, true, true, true, true, true, true, true, true, true, true, true, false, false, false, false, false, false, false, false] rfl rfl (by kernel_rfl) (fun _ _ _ h => h) (Or.inl ⟨by rfl, ?_⟩) ?_ ?_
  rotate_left
  · intro w'
    go_simp
    with_reducible rfl
  rotate_left
  · simp only [Act.put, List.setIfInBounds_toArray, List.set_cons_zero, List.set_cons_succ, i64_w, i32_w]
    rfl
  refine pure_ (i := 17) (N := some 77) (v := ?_) (a' := ?_) #[true, true, true, true, true, true, true, true, true, true, true, true, true, true, true, true, true, true, false, false, false, false, false, false, false] rfl rfl (by kernel_rfl) (fun _ _ _ h => h) (Or.inl ⟨by rfl, ?_⟩) ?_ ?_
  rotate_left
  · intro w'
    go_simp
    with_reducible rfl
  rotate_left
  · simp only [Act.put, List.setIfInBounds_toArray, List.set_cons_zero, List.set_cons_succ, i64_w, i32_w]
    rfl
  refine pure_ (i := 18) (N := some 78) (v := ?_) (a' := ?_) #[true, true, true, true, true, true, true, true, true, true, true, true, true, true, true, true, true, true, true, false, false, false, false, false, false] rfl rfl (by kernel_rfl) (fun _ _ _ h => h) (Or.inl ⟨by rfl, ?_⟩) ?_ ?_
  rotate_left
  · intro w'
    go_simp
    with_reducible rfl
  rotate_left
  · simp only [Act.put, List.setIfInBounds_toArray, List.set_cons_zero, List.set_cons_succ, i64_w, i32_w]
    rfl
  refine take_ (i := 19) (N := some 79) (v := ?_) (a' := ?_) #[true, true, true, true, true, true, true, true, true, true, true, true, true, true, true, true, true, true, true, true, false, false, false, false, false] rfl rfl (by kernel_rfl) (fun _ _ _ h => h) (Or.inl ⟨by rfl, ?_⟩) hHeld ?_ ?_
  rotate_left
  · rintro w' ⟨s0, s1⟩
    go_simp
    with_reducible rfl
  rotate_left
  · simp only [Act.put, List.setIfInBounds_toArray, List.set_cons_zero, List.set_cons_succ, i64_w, i32_w]
    rfl
  refine pure_ (i := 20) (N := some 80) (v := ?_) (a' := ?_) #[true, true, true, true, true, true, true, true, true, true, true, true, true, true, true, true, true, true, true, true, true, false, false, false, false] rfl rfl (by kernel_rfl) (fun _ _ _ h => h) (Or.inl ⟨by rfl, ?_⟩) ?_ ?_
  rotate_left
  · intro w'
    go_simp
    with_reducible rfl
  rotate_left
  · simp only [Act.put, List.setIfInBounds_toArray, List.set_cons_zero, List.set_cons_succ, i64_w, i32_w]
    rfl
  refine one_ (i := 21) (N := some 81) #[true, true, true, true, true, true, true, true, true, true, true, true, true, true, true, true, true, true, true, true, true, true, false, false, false] rfl rfl (by kernel_rfl) (by decide) (fun K hK => ?_)
  refine goes_ Tryz.func41 (by kernel_rfl) rfl #[.int .i64 0, .int .i64 4611686018427387904] (by rfl) rfl rfl (by (try simp only [List.map_toArray, List.map_cons, List.map_nil]); first | done | rfl) ?_
  refine (fits4_same 0 (b := true) (by decide) _).mono ?_
  rintro e w' ⟨rfl, rfl⟩
  refine ⟨_, rfl, ?_⟩
  refine hK.out _ _ ⟨e0, e1⟩ (fun hHeld => ?_)
  clear hK K
  refine norm_ (a' := ?_) ?_ ?_
  rotate_left
  · show Act.put _ (some 81) _ = _
    simp only [Act.put, List.setIfInBounds_toArray, List.set_cons_zero, List.set_cons_succ, i64_w, i32_w]
    rfl
  refine pure_ (i := 22) (N := some 82) (v := ?_) (a' := ?_) #[true, true, true, true, true, true, true, true, true, true, true, true, true, true, true, true, true, true, true, true, true, true, true, false, false] rfl rfl (by kernel_rfl) (fun _ _ _ h => h) (Or.inl ⟨by rfl, ?_⟩) ?_ ?_
  rotate_left
  · intro w'
    go_simp
    with_reducible rfl
  rotate_left
  · simp only [Act.put, List.setIfInBounds_toArray, List.set_cons_zero, List.set_cons_succ, i64_w, i32_w]
    rfl
  obtain ⟨t0, t1, t2, t3, t4⟩ := HT6.out
  refine last_ (i := 23) (N := none) #[true, true, true, true, true, true, true, true, true, true, true, true, true, true, true, true, true, true, true, true, true, true, true, true, false] rfl rfl (by kernel_rfl) (by decide) (fun K hK => ?_)
  refine skip_ (w1 := ?_) (by rfl) rfl ?_ ?_
  rotate_left
  · go_simp
    rfl
  refine hK.out _ _ ?_
  clear hK K
  refine pure_ (i := 24) (N := some 7) (v := ?_) (a' := ?_) #[true, true, true, true, true, true, true, true, true, true, true, true, true, true, true, true, true, true, true, true, true, true, true, true, true] rfl rfl (by kernel_rfl) (fun _ _ _ h => h) (Or.inl ⟨by rfl, ?_⟩) ?_ ?_
  rotate_left
  · intro w'
    go_simp
    with_reducible rfl
  rotate_left
  · simp only [Act.put, List.setIfInBounds_toArray, List.set_cons_zero, List.set_cons_succ, i64_w, i32_w]
    rfl
  refine done_ (by kernel_rfl) ?_
  have HBe := Aside0.mk (below_set (below_set (below_then H0.out.1 H0.out.1.size HB6.out) (g := w.heap.size + 1 + 1) (j := 0) (v := .int .i64 v) (by omega)) (g := w.heap.size + 1 + 1) (j := 1) (v := .int .i64 0) (by omega))
  have r0 := blk2_c0 t4
  have r1 := blk2_c1 t4
  clear t0 t1 t2 t3 t4
  generalize (w17.setCell { block := w.heap.size + 1 + 1, off := 0 } (Value.int .i64 v)).setCell { block := w.heap.size + 1 + 1, off := 1 } (Value.int .i64 0) = we at r0 r1 HBe ⊢
  refine ‹∀ (a : Act) (w : World), Code.wp _ _ _ a w → _› _ _ ?_
  go_wp2_with fail
  refine bodyPost_ret (v := .tuple #[.agg #[.int .i64 v, .int .i64 0], .bool true]) (by simp [results, Tryz.results42, go_sem, r0, r1]) rfl ?_
  exact ⟨rfl, HBe.out⟩
set_option maxHeartbeats 8000000 in
set_option maxRecDepth 100000 in
theorem times4_no (a b : Int) (ha : a.natAbs ≤ 4611686018427387904) (hb : b.natAbs ≤ 4611686018427387904) (h : ¬ (a * b).natAbs ≤ 4611686018427387904) (w : World) : Calls Tryz.prog 42 #[.agg #[.int .i64 a, .int .i64 0], .agg #[.int .i64 b, .int .i64 0], .int .i64 4611686018427387904] w fun e w' => e = .returned (.tuple #[.agg #[.int .i64 0, .int .i64 0], .bool false]) ∧ Below w.heap.size w w' := by
  have H1 := Aside0.mk (prod4_no a b ha hb h)
  have H2 := Aside0.mk (prod4_yes 0 0 (by decide) (by decide) (c := 0) (by simp) (by decide))
  have H3 := Aside0.mk (prod4_yes a 0 ha (by decide) (c := 0) (by simp) (by simp))
  have H4 := Aside0.mk (prod4_yes 0 b (by decide) hb (c := 0) (by simp) (by simp))

  clear ha hb h
  obtain ⟨W0, hW0⟩ : ∃ W0, ((w.alloc (.cells #[.int .i64 a, .int .i64 0] 68)).alloc (.cells #[.int .i64 b, .int .i64 0] 68)).alloc (.cells #[.int .i64 0, .int .i64 0] 68) = W0 := ⟨_, rfl⟩
  have h0 : Below w.heap.size w W0 ∧ W0.heap[w.heap.size]? = some (.cells #[.int .i64 a, .int .i64 0] 68 (0, 0)) ∧ W0.heap[w.heap.size + 1]? = some (.cells #[.int .i64 b, .int .i64 0] 68 (0, 0)) ∧ W0.heap[w.heap.size + 1 + 1]? = some (.cells #[.int .i64 0, .int .i64 0] 68 (0, 0)) ∧ W0.heap.size = w.heap.size + 3 := by
    rw [← hW0]
    refine ⟨below_alloc (below_alloc (below_alloc (Below.refl _ _) _) _) _, (Below.heap_alloc _ _ _ (by simp; omega)).trans (blk_two1 _ _ _), (Below.heap_alloc _ _ _ (by simp)).trans (blk_two2 _ _ _), ?_, by simp⟩
    have h := heap_alloc_new ((w.alloc (.cells #[.int .i64 a, .int .i64 0] 68)).alloc (.cells #[.int .i64 b, .int .i64 0] 68)) (.cells #[.int .i64 0, .int .i64 0] 68)
    simpa using h
  have H0 := Aside0.mk h0
  have a0 := blk2_c0 h0.2.1
  have a1 := blk2_c1 h0.2.1
  have b0 := blk2_c0 h0.2.2.1
  have b1 := blk2_c1 h0.2.2.1
  clear h0
  go_enter Tryz.func42, Tryz.ntmps42
  go_upto_region 2 with (go_at_call 71; (with_reducible refine (H1.out _).mono ?_); rintro e w' ⟨rfl, rfl⟩)
  go_upto_region 3 with (go_at_call 71; (with_reducible refine (H2.out _).mono ?_); rintro e w' ⟨rfl, rfl⟩)
  go_upto_region 4 with (go_at_call 71; (with_reducible refine (H3.out _).mono ?_); rintro e w' ⟨rfl, rfl⟩)
  go_upto_region 5 with (go_at_call 71; (with_reducible refine (H4.out _).mono ?_); rintro e w' ⟨rfl, rfl⟩)
  go_upto_region 6 with fail
  clear hW0
  have HL := Aside0.mk (show (W0.alloc (.cells #[.int .i64 0, .int .i64 0] 68)).heap[W0.heap.size]? = some (.cells #[.int .i64 0, .int .i64 0] 68 (0, 0)) from heap_alloc_new W0 _)
  have HBW := Aside0.mk (show Below W0.heap.size W0 (W0.alloc (.cells #[.int .i64 0, .int .i64 0] 68)) from below_alloc (Below.refl _ _) _)
  generalize W0.alloc (.cells #[.int .i64 0, .int .i64 0] 68) = wq at HL HBW ⊢
  have HB6 := Aside0.mk (below_then HBW.out HBW.out.size (below_drew (Below.refl wq.heap.size wq)))
  have hL6 := ((below_drew (Below.refl wq.heap.size wq)).block _ (Array.getElem?_eq_some_iff.1 HL.out).1).trans HL.out
  have hT6 := (HB6.out.block _ (Array.getElem?_eq_some_iff.1 H0.out.2.2.2.1).1).trans H0.out.2.2.2.1
  generalize W0.heap.size = g16 at hL6 ⊢
  have e0 : World.cell? wq.drew ⟨g16, 0, none⟩ = some (.int .i64 0) := blk2_c0 hL6
  have e1 : World.cell? wq.drew ⟨g16, 1, none⟩ = some (.int .i64 0) := blk2_c1 hL6
  have hs0 := blk2_s0 hT6 (.int .i64 0)
  have HT6 := Aside0.mk (And.intro (blk2_c0 hT6) (And.intro (blk_fr (i := 0) hT6) (And.intro (blk2_c1 hs0) (And.intro (blk_fr (i := 1) hs0) (blk2_s1 hs0 (.int .i64 0))))))
  clear hs0 hT6 hL6 HL a0 a1 b0 b1
  refine start_ (n := 25) (S := fun w' => w'.cell? ⟨g16, 0, none⟩ = some (.int .i64 0) ∧ w'.cell? ⟨g16, 1, none⟩ = some (.int .i64 0)) (ds := [23, 24]) #[false, false, false, false, false, false, false, false, false, false, false, false, false, false, false, false, false, false, false, false, false, false, false, false, false] (by kernel_rfl) rfl rfl ⟨e0, e1⟩ (fun hHeld => ?_)
  generalize hD : wq.drew = w17 at *
  clear hD
  refine take_ (i := 0) (N := some 60) (v := ?_) (a' := ?_) #[true, false, false, false, false, false, false, false, false, false, false, false, false, false, false, false, false, false, false, false, false, false, false, false, false] rfl rfl (by kernel_rfl) (fun _ _ _ h => h) (Or.inl ⟨by rfl, ?_⟩) hHeld ?_ ?_
  rotate_left
  · rintro w' ⟨s0, s1⟩
    go_simp
    with_reducible rfl
  rotate_left
  · simp only [Act.put, List.setIfInBounds_toArray, List.set_cons_zero, List.set_cons_succ, i64_w, i32_w]
    rfl
  refine pure_ (i := 1) (N := some 61) (v := ?_) (a' := ?_) #[true, true, false, false, false, false, false, false, false, false, false, false, false, false, false, false, false, false, false, false, false, false, false, false, false] rfl rfl (by kernel_rfl) (fun _ _ _ h => h) (Or.inl ⟨by rfl, ?_⟩) ?_ ?_
  rotate_left
  · intro w'
    go_simp
    with_reducible rfl
  rotate_left
  · simp only [Act.put, List.setIfInBounds_toArray, List.set_cons_zero, List.set_cons_succ, i64_w, i32_w]
    rfl
  refine pure_ (i := 2) (N := some 62) (v := ?_) (a' := ?_) #[true, true, true, false, false, false, false, false, false, false, false, false, false, false, false, false, false, false, false, false, false, false, false, false, false] rfl rfl (by kernel_rfl) (fun _ _ _ h => h) (Or.inl ⟨by rfl, ?_⟩) ?_ ?_
  rotate_left
  · intro w'
    go_simp
    with_reducible rfl
  rotate_left
  · simp only [Act.put, List.setIfInBounds_toArray, List.set_cons_zero, List.set_cons_succ, i64_w, i32_w]
    rfl
  refine pure_ (i := 3) (N := some 63) (v := undef) (a' := ?_) #[true, true, true, true, false, false, false, false, false, false, false, false, false, false, false, false, false, false, false, false, false, false, false, false, false] rfl rfl (by kernel_rfl) (fun _ _ _ h => h) (Or.inr ⟨by rfl, rfl⟩) ?_ ?_
  rotate_left
  · simp only [Act.put, List.setIfInBounds_toArray, List.set_cons_zero, List.set_cons_succ, i64_w, i32_w]
    rfl
  refine pure_ (i := 4) (N := some 64) (v := ?_) (a' := ?_) #[true, true, true, true, true, false, false, false, false, false, false, false, false, false, false, false, false, false, false, false, false, false, false, false, false] rfl rfl (by kernel_rfl) (fun _ _ _ h => h) (Or.inl ⟨by rfl, ?_⟩) ?_ ?_
  rotate_left
  · intro w'
    go_simp
    with_reducible rfl
  rotate_left
  · simp only [Act.put, List.setIfInBounds_toArray, List.set_cons_zero, List.set_cons_succ, i64_w, i32_w]
    rfl
  refine pure_ (i := 5) (N := some 65) (v := ?_) (a' := ?_) #[true, true, true, true, true, true, false, false, false, false, false, false, false, false, false, false, false, false, false, false, false, false, false, false, false] rfl rfl (by kernel_rfl) (fun _ _ _ h => h) (Or.inl ⟨by rfl, ?_⟩) ?_ ?_
  rotate_left
  · intro w'
    go_simp
    with_reducible rfl
  rotate_left
  · simp only [Act.put, List.setIfInBounds_toArray, List.set_cons_zero, List.set_cons_succ, i64_w, i32_w]
    rfl
  refine pure_ (i := 6) (N := some 66) (v := undef) (a' := ?_) #[true, true, true, true, true, true, true, false, false, false, false, false, false, false, false, false, false, false, false, false, false, false, false, false, false] rfl rfl (by kernel_rfl) (fun _ _ _ h => h) (Or.inr ⟨by rfl, rfl⟩) ?_ ?_
  rotate_left
  · simp only [Act.put, List.setIfInBounds_toArray, List.set_cons_zero, List.set_cons_succ, i64_w, i32_w]
    rfl
  refine pure_ (i := 7) (N := some 67) (v := ?_) (a' := ?_) #[true, true, true, true, true, true, true, true, false, false, false, false, false, false, false, false, false, false, false, false, false, false, false, false, false] rfl rfl (by kernel_rfl) (fun _ _ _ h => h) (Or.inl ⟨by rfl, ?_⟩) ?_ ?_
  rotate_left
  · intro w'
    go_simp
    with_reducible rfl
  rotate_left
  · simp only [Act.put, List.setIfInBounds_toArray, List.set_cons_zero, List.set_cons_succ, i64_w, i32_w]
    rfl
  refine pure_ (i := 8) (N := some 68) (v := ?_) (a' := ?_) #[true, true, true, true, true, true, true, true, true, false, false, false, false, false, false, false, false, false, false, false, false, false, false, false, false] rfl rfl (by kernel_rfl) (fun _ _ _ h => h) (Or.inl ⟨by rfl, ?_⟩) ?_ ?_
  rotate_left
  · intro w'
    go_simp
    with_reducible rfl
  rotate_left
  · simp only [Act.put, List.setIfInBounds_toArray, List.set_cons_zero, List.set_cons_succ, i64_w, i32_w]
    rfl
  refine pure_ (i := 9) (N := some 69) (v := undef) (a' := ?_) #[true, true, true, true, true, true, true, true, true, true, false, false, false, false, false, false, false, false, false, false, false, false, false, false, false] rfl rfl (by kernel_rfl) (fun _ _ _ h => h) (Or.inr ⟨by rfl, rfl⟩) ?_ ?_
  rotate_left
  · simp only [Act.put, List.setIfInBounds_toArray, List.set_cons_zero, List.set_cons_succ, i64_w, i32_w]
    rfl
  refine pure_ (i := 10) (N := some 70) (v := ?_) (a' := ?_) #[true, true, true, true, true, true, true, true, true, true, true, false, false, false, false, false, false, false, false, false, false, false, false, false, false] rfl rfl (by kernel_rfl) (fun _ _ _ h => h) (Or.inl ⟨by rfl, ?_⟩) ?_ ?_
  rotate_left
  · intro w'
    go_simp
    with_reducible rfl
  rotate_left
  · simp only [Act.put, List.setIfInBounds_toArray, List.set_cons_zero, List.set_cons_succ, i64_w, i32_w]
    rfl
  refine pure_ (i := 11) (N := some 71) (v := ?_) (a' := ?_) #[true, true, true, true, true, true, true, true, true, true, true, true, false, false, false, false, false, false, false, false, false, false, false, false, false] rfl rfl (by kernel_rfl) (fun _ _ _ h => h) (Or.inl ⟨by rfl, ?_⟩) ?_ ?_
  rotate_left
  · intro w'
    go_simp
    with_reducible rfl
  rotate_left
  · simp only [Act.put, List.setIfInBounds_toArray, List.set_cons_zero, List.set_cons_succ, i64_w, i32_w]
    rfl
  refine pure_ (i := 12) (N := some 72) (v := undef) (a' := ?_) #[true, true, true, true, true, true, true, true, true, true, true, true, true, false, false, false, false, false, false, false, false, false, false, false, false] rfl rfl (by kernel_rfl) (fun _ _ _ h => h) (Or.inr ⟨by rfl, rfl⟩) ?_ ?_
  rotate_left
  · simp only [Act.put, List.setIfInBounds_toArray, List.set_cons_zero, List.set_cons_succ, i64_w, i32_w]
    rfl
  refine pure_ (i := 13) (N := some 73) (v := undef) (a' := ?_) #[true, true, true, true, true, true, true, true, true, true, true, true, true, true, false, false, false, false, false, false, false, false, false, false, false] rfl rfl (by kernel_rfl) (fun _ _ _ h => h) (Or.inr ⟨by rfl, rfl⟩) ?_ ?_
  rotate_left
  · simp only [Act.put, List.setIfInBounds_toArray, List.set_cons_zero, List.set_cons_succ, i64_w, i32_w]
    rfl
  refine pure_ (i := 14) (N := some 74) (v := undef) (a' := ?_) #[true, true, true, true, true, true, true, true, true, true, true, true, true, true, true, false, false, false, false, false, false, false, false, false, false] rfl rfl (by kernel_rfl) (fun _ _ _ h => h) (Or.inr ⟨by rfl, rfl⟩) ?_ ?_
  rotate_left
  · simp only [Act.put, List.setIfInBounds_toArray, List.set_cons_zero, List.set_cons_succ, i64_w, i32_w]
    rfl
  refine pure_ (i := 15) (N := some 75) (v := undef) (a' := ?_) #[true, true, true, true, true, true, true, true, true, true, true, true, true, true, true, true, false, false, false, false, false, false, false, false, false] rfl rfl (by kernel_rfl) (fun _ _ _ h => h) (Or.inr ⟨by rfl, rfl⟩) ?_ ?_
  rotate_left
  · simp only [Act.put, List.setIfInBounds_toArray, List.set_cons_zero, List.set_cons_succ, i64_w, i32_w]
    rfl
  refine pure_ (i := 16) (N := some 76) (v := ?_) (a' := ?_) #[true, true, true, true, true, true, true, true, true, true, true, true, true, true, true, true, true, false, false, false, false, false, false, false, false] rfl rfl (by kernel_rfl) (fun _ _ _ h => h) (Or.inl ⟨by rfl, ?_⟩) ?_ ?_
  rotate_left
  · intro w'
    go_simp
    with_reducible rfl
  rotate_left
  · simp only [Act.put, List.setIfInBounds_toArray, List.set_cons_zero, List.set_cons_succ, i64_w, i32_w]
    rfl
  refine pure_ (i := 17) (N := some 77) (v := ?_) (a' := ?_) #[true, true, true, true, true, true, true, true, true, true, true, true, true, true, true, true, true, true, false, false, false, false, false, false, false] rfl rfl (by kernel_rfl) (fun _ _ _ h => h) (Or.inl ⟨by rfl, ?_⟩) ?_ ?_
  rotate_left
  · intro w'
    go_simp
    with_reducible rfl
  rotate_left
  · simp only [Act.put, List.setIfInBounds_toArray, List.set_cons_zero, List.set_cons_succ, i64_w, i32_w]
    rfl
  refine pure_ (i := 18) (N := some 78) (v := undef) (a' := ?_) #[true, true, true, true, true, true, true, true, true, true, true, true, true, true, true, true, true, true, true, false, false, false, false, false, false] rfl rfl (by kernel_rfl) (fun _ _ _ h => h) (Or.inr ⟨by rfl, rfl⟩) ?_ ?_
  rotate_left
  · simp only [Act.put, List.setIfInBounds_toArray, List.set_cons_zero, List.set_cons_succ, i64_w, i32_w]
    rfl
  refine pure_ (i := 19) (N := some 79) (v := undef) (a' := ?_) #[true, true, true, true, true, true, true, true, true, true, true, true, true, true, true, true, true, true, true, true, false, false, false, false, false] rfl rfl (by kernel_rfl) (fun _ _ _ h => h) (Or.inr ⟨by rfl, rfl⟩) ?_ ?_
  rotate_left
  · simp only [Act.put, List.setIfInBounds_toArray, List.set_cons_zero, List.set_cons_succ, i64_w, i32_w]
    rfl
  refine pure_ (i := 20) (N := some 80) (v := undef) (a' := ?_) #[true, true, true, true, true, true, true, true, true, true, true, true, true, true, true, true, true, true, true, true, true, false, false, false, false] rfl rfl (by kernel_rfl) (fun _ _ _ h => h) (Or.inr ⟨by rfl, rfl⟩) ?_ ?_
  rotate_left
  · simp only [Act.put, List.setIfInBounds_toArray, List.set_cons_zero, List.set_cons_succ, i64_w, i32_w]
    rfl
  refine pure_ (i := 21) (N := some 81) (v := undef) (a' := ?_) #[true, true, true, true, true, true, true, true, true, true, true, true, true, true, true, true, true, true, true, true, true, true, false, false, false] rfl rfl (by kernel_rfl) (fun _ _ _ h => h) (Or.inr ⟨by rfl, rfl⟩) ?_ ?_
  rotate_left
  · simp only [Act.put, List.setIfInBounds_toArray, List.set_cons_zero, List.set_cons_succ, i64_w, i32_w]
    rfl
  refine pure_ (i := 22) (N := some 82) (v := ?_) (a' := ?_) #[true, true, true, true, true, true, true, true, true, true, true, true, true, true, true, true, true, true, true, true, true, true, true, false, false] rfl rfl (by kernel_rfl) (fun _ _ _ h => h) (Or.inl ⟨by rfl, ?_⟩) ?_ ?_
  rotate_left
  · intro w'
    go_simp
    with_reducible rfl
  rotate_left
  · simp only [Act.put, List.setIfInBounds_toArray, List.set_cons_zero, List.set_cons_succ, i64_w, i32_w]
    rfl
  obtain ⟨t0, t1, t2, t3, t4⟩ := HT6.out
  refine last_ (i := 23) (N := none) #[true, true, true, true, true, true, true, true, true, true, true, true, true, true, true, true, true, true, true, true, true, true, true, true, false] rfl rfl (by kernel_rfl) (by decide) (fun K hK => ?_)
  refine skip_ (w1 := ?_) (by rfl) rfl ?_ ?_
  rotate_left
  · go_simp
    rfl
  refine hK.out _ _ ?_
  clear hK K
  refine pure_ (i := 24) (N := some 7) (v := ?_) (a' := ?_) #[true, true, true, true, true, true, true, true, true, true, true, true, true, true, true, true, true, true, true, true, true, true, true, true, true] rfl rfl (by kernel_rfl) (fun _ _ _ h => h) (Or.inl ⟨by rfl, ?_⟩) ?_ ?_
  rotate_left
  · intro w'
    go_simp
    with_reducible rfl
  rotate_left
  · simp only [Act.put, List.setIfInBounds_toArray, List.set_cons_zero, List.set_cons_succ, i64_w, i32_w]
    rfl
  refine done_ (by kernel_rfl) ?_
  have HBe := Aside0.mk (below_set (below_set (below_then H0.out.1 H0.out.1.size HB6.out) (g := w.heap.size + 1 + 1) (j := 0) (v := .int .i64 0) (by omega)) (g := w.heap.size + 1 + 1) (j := 1) (v := .int .i64 0) (by omega))
  have r0 := blk2_c0 t4
  have r1 := blk2_c1 t4
  clear t0 t1 t2 t3 t4
  generalize (w17.setCell { block := w.heap.size + 1 + 1, off := 0 } (Value.int .i64 0)).setCell { block := w.heap.size + 1 + 1, off := 1 } (Value.int .i64 0) = we at r0 r1 HBe ⊢
  refine ‹∀ (a : Act) (w : World), Code.wp _ _ _ a w → _› _ _ ?_
  go_wp2_with fail
  refine bodyPost_ret (v := .tuple #[.agg #[.int .i64 0, .int .i64 0], .bool false]) (by simp [results, Tryz.results42, go_sem, r0, r1]) rfl ?_
  exact ⟨rfl, HBe.out⟩
end Go.Proofs.YtlmkgghpaaadhaaGreatDoor.G

/- The document's join, walked: Both and Join. -/
set_option linter.unusedVariables false
set_option linter.unusedSimpArgs false
namespace Go.Proofs.YtlmkgghpaaadhaaGreatDoor.G
open Go.RowKit Go.Proofs.YtlmkgghpaaadhaaGreatDoorW.PrintWords Go.Proofs.YtlmkgghpaaadhaaGreatDoorW.PrintLast Go.Proofs.YtlmkgghpaaadhaaGreatDoorW.PrintMore

set_option maxHeartbeats 4000000 in
set_option maxRecDepth 100000 in
theorem refboth_any {A0 A1 A2 A3 A4 : Option Addr} {c0 c1 c2 c3 c4 : Nat} {s t u v al : List Int} {w : World} {k0 k1 k2 k3 k4 : Nat} (hr0 : Kd.C KI w A0 s.length s) (hr1 : Kd.C KI w A1 t.length t) (hr2 : Kd.C KI w A2 u.length u) (hr3 : Kd.C KI w A3 v.length v) (hr4 : Kd.C KI w A4 al.length al)
    (ht : t.length = s.length) (hv : v.length = u.length) (h0 : s.length = k0) (h1 : t.length = k1) (h2 : u.length = k2) (h3 : v.length = k3) (h4 : al.length = k4) (hm : al.length ≤ 1000000000) (hin : ∀ a ∈ al, a ∈ s ∨ a ∈ u) {r : List Int} (hr : (al.map fun a => if a ∈ s then look s t a else look u v a) = r) :
    Calls Tryz.prog 70 #[.slice A0 k0 c0, .slice A1 k1 c1, .slice A2 k2 c2, .slice A3 k3 c3, .slice A4 k4 c4] w fun e w' => ∃ v, e = .returned v ∧ Kd.R KI 3 w' w.heap.size AnyB v r ∧ Below w.heap.size w w' := by
  subst h0 h1 h2 h3 h4
  obtain ⟨f, hf⟩ : ∃ f : Int → Int, (fun a => if a ∈ s then look s t a else look u v a) = f := ⟨_, rfl⟩
  rw [hf] at hr
  have HR0 := Aside0.mk hr0
  have HR1 := Aside0.mk hr1
  have HR2 := Aside0.mk hr2
  have HR3 := Aside0.mk hr3
  have HR4 := Aside0.mk hr4
  have HRR := Aside0.mk hr
  have HS := Aside0.mk (And.intro ht (And.intro hv (And.intro hin hf)))
  clear hr0 hr1 hr2 hr3 hr4 hr ht hv hin hf
  go_enter Tryz.func70, Tryz.ntmps70
  go_wp2
  go_loopw [11, 12] (fun v i wr => ∃ k : Nat, k ≤ al.length ∧ i = .int .i64 k ∧ Aside0 (Kd.R KI 3 wr w.heap.size AnyB v ((al.take k).map f)) ∧ Aside0 (Below w.heap.size w wr)) (fun _ i _ => al.length - (intOf i).toNat)
  case atStart => exact ⟨0, Nat.zero_le _, rfl, ⟨R_lit0 w⟩, ⟨below_alloc (Below.refl _ _) _⟩⟩
  case round =>
    obtain ⟨k, hk, rfl, HO, HB⟩ := hrel
    by_cases hlt : k < al.length
    · obtain ⟨ad, rfl, hx⟩ := at_int' HR4.out HB.out k (by omega) (by omega)
      simp only [Int.toNat_natCast] at hx
      have HT := Aside0.mk (map_take_rd f al k hlt)
      have hkl : (k : Int) < (al.length : Int) := by omega
      have hpl : ((al.take k).map f).length ≤ k := by rw [List.length_map, List.length_take]; omega
      obtain ⟨a, ha⟩ : ∃ a, rd al (k : Int) = a := ⟨_, rfl⟩
      have hma : a ∈ s ∨ a ∈ u := HS.out.2.2.1 a (by rw [← ha, rd_get al k hlt]; exact List.getElem_mem hlt)
      rw [ha] at hx HT
      clear ha
      have hfa : f a = if a ∈ s then look s t a else look u v a := by rw [← HS.out.2.2.2]
      have hi := idx_le s a
      have hpt : idx s a < (t.length : Int) := by have := HS.out.1; omega
      obtain ⟨p, hp⟩ : ∃ p, idx s a = p := ⟨_, rfl⟩
      rw [hp] at hpt hi
      have HP := Aside0.mk hp
      by_cases h0 : 0 ≤ p
      · have h0d : decide (0 ≤ p) = true := decide_eq_true h0
        obtain ⟨ad1, rfl, hy⟩ := at_int' HR1.out HB.out p h0 hpt
        obtain ⟨y, hye⟩ : ∃ y, rd t p = y := ⟨_, rfl⟩
        rw [hye] at hy
        have HFA := Aside0.mk (show f a = y from by rw [hfa, if_pos (hi.2.1 h0), look, hp, hye])
        clear hp hfa hi hma hye
        go_wp2_with (first
          | (go_at_call 80; refine (refplace_any (Kd.C_below HR0.out HB.out) HP.out).mono ?_; rintro e w3 ⟨rfl, rfl⟩)
          | (at_builtin; refine app_int (w := w) w.heap.size rfl (.tmp 29) (.tmp 34) rfl _ _ _ rfl rfl HO HB HB.out.size (by omega) ?_; intro v1 w4 HO4 HB4 HG4))
        go_roundw
        case rel => exact ⟨k + 1, by omega, by go_num, ⟨by rw [HT.out, HFA.out]; exact HO4.out⟩, HB4⟩
        case measure => simp [intOf]; omega
      · have h0d : decide (0 ≤ p) = false := decide_eq_false h0
        have hms : ¬ a ∈ s := fun e => h0 (hi.2.2 e)
        have hi2 := idx_le u a
        have hqt : idx u a < (v.length : Int) := by have := HS.out.2.1; omega
        have hq0 : 0 ≤ idx u a := hi2.2.2 (hma.resolve_left hms)
        obtain ⟨q, hq⟩ : ∃ q, idx u a = q := ⟨_, rfl⟩
        rw [hq] at hqt hq0
        have HQ := Aside0.mk hq
        obtain ⟨ad3, rfl, hy⟩ := at_int' HR3.out HB.out q hq0 hqt
        obtain ⟨y, hye⟩ : ∃ y, rd v q = y := ⟨_, rfl⟩
        rw [hye] at hy
        have HFA := Aside0.mk (show f a = y from by rw [hfa, if_neg hms, look, hq, hye])
        clear hp hfa hi hma hye hi2 hq hms
        go_wp2_with (first
          | (have hgd := HM1; clear hgd; go_at_call 80; refine (refplace_any (Kd.C_below HR2.out HB.out) HQ.out).mono ?_; rintro e w3 ⟨rfl, rfl⟩)
          | (go_at_call 80; refine (refplace_any (Kd.C_below HR0.out HB.out) HP.out).mono ?_; rintro e w3 ⟨rfl, rfl⟩; have HM1 := Aside0.mk True.intro)
          | (at_builtin; refine app_int (w := w) w.heap.size rfl (.tmp 36) (.tmp 46) rfl _ _ _ rfl rfl HO HB HB.out.size (by omega) ?_; intro v1 w4 HO4 HB4 HG4))
        go_roundw
        case rel => exact ⟨k + 1, by omega, by go_num, ⟨by rw [HT.out, HFA.out]; exact HO4.out⟩, HB4⟩
        case measure => simp [intOf]; omega
    · rw [List.take_of_length_le (by omega), HRR.out] at HO
      go_wp2
      go_ret
      exact ⟨_, rfl, HO.out, HB.out⟩

/-- The rows of M that go with a row. -/
def w1o (sa sb : List Int) (M : List (List Int)) (t : List Int) : List (List Int) := (M.filter (fits sa sb t)).map (bothRow sa sb t)
theorem w1o_len (sa sb : List Int) (M : List (List Int)) (t : List Int) : (w1o sa sb M t).length ≤ M.length := by unfold w1o; rw [List.length_map]; exact List.length_filter_le _ _
theorem w1o_yes {sa sb t : List Int} {M : List (List Int)} {j : Nat} (hj : j < M.length) (h : fits sa sb t (M.getD j []) = true) : w1o sa sb (M.take (j + 1)) t = w1o sa sb (M.take j) t ++ [bothRow sa sb t (M.getD j [])] := by
  unfold w1o
  rw [List.take_succ_eq_append_getElem hj, List.filter_append, List.map_append]
  rw [getD_get M j hj] at h ⊢
  rw [List.filter_cons_of_pos h]; rfl
theorem w1o_no {sa sb t : List Int} {M : List (List Int)} {j : Nat} (hj : j < M.length) (h : fits sa sb t (M.getD j []) = false) : w1o sa sb (M.take (j + 1)) t = w1o sa sb (M.take j) t := by
  unfold w1o
  rw [List.take_succ_eq_append_getElem hj, List.filter_append, List.map_append]
  rw [getD_get M j hj] at h
  rw [List.filter_cons_of_neg (by simp [h])]; simp
theorem w1o_all {sa sb : List Int} {La Lb : List (List Int)} {k : Nat} (hk : k < La.length) : (La.take (k + 1)).flatMap (w1o sa sb Lb) = (La.take k).flatMap (w1o sa sb Lb) ++ w1o sa sb Lb (La.getD k []) := by
  rw [List.take_succ_eq_append_getElem hk, List.flatMap_append, getD_get La k hk]; simp
theorem uni_zipJ {l m : List Int} (h : Rise l) (h' : Rise m) : zip2 l (m.filter fun a => decide (a ∉ l)) = uni l m :=
  rise_same (zip2_rise _ _ h (List.Pairwise.filter _ h') fun x hx hx' => by
    have := (List.mem_filter.1 hx').2
    simp at this
    exact this hx) (merge_rise _ _ h h') fun a => by
    show a ∈ zip2 l (m.filter fun a => decide (a ∉ l)) ↔ a ∈ uni l m
    rw [mem_zip2, mem_uni, List.mem_filter]
    by_cases ha : a ∈ l <;> simp [ha]
structure Jx3 (w W : World) (a0 a1 b0 b1 : Value) : Prop where
  bel : Below w.heap.size w W
  a : W.heap[w.heap.size]? = some (.cells #[a0, a1] 31 (0, 0))
  b : W.heap[w.heap.size + 1]? = some (.cells #[b0, b1] 31 (0, 0))
  c : W.heap[w.heap.size + 1 + 1]? = some (.cells #[.slice none 0 0, .slice none 0 0] 31 (0, 0))
theorem Jx3.new (w : World) (a0 a1 b0 b1 : Value) : Jx3 w (((w.alloc (.cells #[a0, a1] 31)).alloc (.cells #[b0, b1] 31)).alloc (.cells #[.slice none 0 0, .slice none 0 0] 31)) a0 a1 b0 b1 := by
  refine ⟨below_alloc (below_alloc (below_alloc (Below.refl _ _) _) _) _, (Below.heap_alloc _ _ _ (by simp; omega)).trans (blk_two1 _ _ _), (Below.heap_alloc _ _ _ (by simp)).trans (blk_two2 _ _ _), ?_⟩
  have h := heap_alloc_new ((w.alloc (.cells #[a0, a1] 31)).alloc (.cells #[b0, b1] 31)) (.cells #[.slice none 0 0, .slice none 0 0] 31)
  simpa using h
theorem Jx3.step {w W W1 : World} {a0 a1 b0 b1 : Value} (h : Jx3 w W a0 a1 b0 b1) (hb : Below W.heap.size W W1) : Jx3 w W1 a0 a1 b0 b1 :=
  ⟨below_then h.bel h.bel.size hb, (hb.block _ (Array.getElem?_eq_some_iff.1 h.a).1).trans h.a, (hb.block _ (Array.getElem?_eq_some_iff.1 h.b).1).trans h.b, (hb.block _ (Array.getElem?_eq_some_iff.1 h.c).1).trans h.c⟩
set_option maxHeartbeats 8000000 in
set_option maxRecDepth 100000 in
theorem refjoin3_any {A B A' B' : Option Addr} {c d c' d' : Nat} {sa sb : List Int} {La Lb : List (List Int)} {w : World} (h : RelRd w A c sa A' c' La) (h' : RelRd w B d sb B' d' Lb) (hr : RightP sa La) (hr' : RightP sb Lb) (hm : sa.length ≤ 1000000) (hm' : sb.length ≤ 1000000) (hm1 : La.length ≤ 1000000) (hm1' : Lb.length ≤ 1000000)
    {U : List Int} {J : List (List Int)} (hU : uni sa sb = U) (hJ : joinRows sa La sb Lb = J) :
    Calls Tryz.prog 39 #[.agg #[.slice A sa.length c, .slice A' La.length c'], .agg #[.slice B sb.length d, .slice B' Lb.length d']] w fun e w' => ∃ A2 c2 A3 c3, e = .returned (.agg #[.slice A2 U.length c2, .slice A3 J.length c3]) ∧ RelM w' w.heap.size (.agg #[.slice A2 U.length c2, .slice A3 J.length c3]) (U, J) ∧ Below w.heap.size w w' := by
  have HR := Aside0.mk (And.intro h (And.intro h' (And.intro hr hr')))
  have hul : U.length ≤ 2000000 := by rw [← hU]; have := uni_len sa sb; omega
  have HUJ := Aside0.mk (And.intro hU hJ)
  have hx0 := Jx3.new w (.slice A sa.length c) (.slice A' La.length c') (.slice B sb.length d) (.slice B' Lb.length d')
  obtain ⟨W0, hW0⟩ : ∃ W0, ((w.alloc (.cells #[.slice A sa.length c, .slice A' La.length c'] 31)).alloc (.cells #[.slice B sb.length d, .slice B' Lb.length d'] 31)).alloc (.cells #[.slice none 0 0, .slice none 0 0] 31) = W0 := ⟨_, rfl⟩
  rw [hW0] at hx0
  have H0 := Aside0.mk hx0
  have a0 := blk2_c0 hx0.a
  have b0 := blk2_c0 hx0.b
  clear h h' hr hr' hU hJ hx0
  go_enter Tryz.func39, Tryz.ntmps39
  go_upto_region 2 with (go_at_call 64; refine (refunite_any (Kd.C_below HR.out.1.row H0.out.bel) (Kd.C_below HR.out.2.1.row H0.out.bel) (by omega) (by omega) ((uni_zipJ HR.out.2.2.1.1.1 HR.out.2.2.2.1.1).trans HUJ.out.1)).mono ?_; rintro e w1 ⟨v1, rfl, hv1, hb1⟩; obtain ⟨A5, c5, rfl, _, hC1⟩ := Kd.R_reads hv1; have H1 := Aside0.mk (H0.out.step hb1); have HV1 := Aside0.mk (And.intro hv1 hC1); have HZ1 := Aside0.mk hb1; clear hv1 hb1 hC1)
  have HJ8 := Aside0.mk (H1.out.step (below_alloc (Below.refl w1.heap.size w1) (.cells #[.slice A5 U.length c5, .slice none 0 0] 31)))
  have HG8 := Aside0.mk (heap_alloc_new w1 (.cells #[.slice A5 U.length c5, .slice none 0 0] 31))
  have HV8 := Aside0.mk (Kd.R_lower (Kd.R_below HV1.out.1 (below_alloc (Below.refl w1.heap.size w1) (.cells #[.slice A5 U.length c5, .slice none 0 0] 31))) H0.out.bel.size)
  have HC8 := Aside0.mk (Kd.C_below HV1.out.2 (below_alloc (Below.refl w1.heap.size w1) (.cells #[.slice A5 U.length c5, .slice none 0 0] 31)))
  have HLT := Aside0.mk (show w.heap.size + 1 + 1 < w1.heap.size from (Array.getElem?_eq_some_iff.1 H1.out.c).1)
  clear hW0 a0 b0 H0 H1 HV1 HZ1
  generalize w1.alloc (.cells #[.slice A5 U.length c5, .slice none 0 0] 31) = W8 at HJ8 HG8 HV8 HC8 ⊢
  generalize w1.heap.size = g5 at HG8 HLT ⊢
  have HC := Aside0.mk (And.intro (blk2_c0 HJ8.out.a) (And.intro (blk2_c1 HJ8.out.a) (And.intro (blk2_c0 HJ8.out.b) (And.intro (blk2_c1 HJ8.out.b) (blk2_c0 HG8.out)))))
  go_wp2_with fail
  go_loopw [6, 7] (fun v i W => ∃ k : Nat, k ≤ La.length ∧ i = .int .i64 k ∧ Aside0 (Kd.N KL 22 W W8.heap.size (fun q => W8.heap.size ≤ q) v ((La.take k).flatMap (w1o sa sb Lb))) ∧ Aside0 (Below W8.heap.size W8 W) ∧ Aside0 (((La.take k).flatMap (w1o sa sb Lb)).length ≤ k * Lb.length)) (fun _ i _ => La.length - (intOf i).toNat)
  case atStart => exact ⟨0, Nat.zero_le _, rfl, ⟨N_litB W8 _ (Nat.le_refl _)⟩, ⟨below_alloc (Below.refl _ _) _⟩, ⟨by simp⟩⟩
  case round =>
    obtain ⟨k, hk, rfl, HN, HB, HL⟩ := hrel
    have a1 := cell_below HB.out HC.out.2.1
    by_cases hlt : k < La.length
    · have hkl : (k : Int) < (La.length : Int) := by omega
      have HAL := Aside0.mk (w1o_all (sa := sa) (sb := sb) (Lb := Lb) hlt)
      obtain ⟨acc, hacc⟩ : ∃ acc, (La.take k).flatMap (w1o sa sb Lb) = acc := ⟨_, rfl⟩
      rw [hacc] at HN HL HAL
      have HKL := Aside0.mk (show k * Lb.length ≤ 1000000 * 1000000 from Nat.mul_le_mul (by omega) hm1')
      obtain ⟨ad, Bx, cx, hA', hx, hlx, hcx⟩ := at_row HR.out.1.rows HJ8.out.bel k hlt
      subst hA'
      have HLX := Aside0.mk (show (La.getD k []).length = sa.length from HR.out.2.2.1.2.1 _ (by rw [getD_get _ _ hlt]; exact List.getElem_mem hlt))
      obtain ⟨x, hxe⟩ : ∃ x, La.getD k [] = x := ⟨_, rfl⟩
      rw [hxe] at hx hcx HLX HAL
      have HX := Aside0.mk (And.intro hx hcx)
      clear hacc hx hcx hlx hxe
      go_wp2_with fail
      go_loopw [6, 8] (fun v i W => ∃ j : Nat, j ≤ Lb.length ∧ i = .int .i64 j ∧ Aside0 (Kd.N KL 22 W W8.heap.size (fun q => W8.heap.size ≤ q) v (acc ++ w1o sa sb (Lb.take j) x)) ∧ Aside0 (Below W8.heap.size W8 W)) (fun _ i _ => Lb.length - (intOf i).toNat)
      case atStart => exact ⟨0, Nat.zero_le _, rfl, ⟨by simpa [w1o] using HN.out⟩, HB⟩
      case round =>
        clear HN HB a1
        obtain ⟨j, hj, rfl, HN, HB⟩ := hrel
        have b1 := cell_below HB.out HC.out.2.2.2.1
        by_cases hjt : j < Lb.length
        · have hjl : (j : Int) < (Lb.length : Int) := by omega
          obtain ⟨bd, By, cy, hB', hy, hly, hcy⟩ := at_row HR.out.2.1.rows HJ8.out.bel j hjt
          subst hB'
          have HLY := Aside0.mk (show (Lb.getD j []).length = sb.length from HR.out.2.2.2.2.1 _ (by rw [getD_get _ _ hjt]; exact List.getElem_mem hjt))
          have HYES := Aside0.mk (fun hf => w1o_yes (sa := sa) (sb := sb) (t := x) hjt hf)
          have HNOT := Aside0.mk (fun hf => w1o_no (sa := sa) (sb := sb) (t := x) hjt hf)
          obtain ⟨y, hye⟩ : ∃ y, Lb.getD j [] = y := ⟨_, rfl⟩
          rw [hye] at hy hcy HLY HYES HNOT
          obtain ⟨f, hf⟩ : ∃ f, fits sa sb x y = f := ⟨_, rfl⟩
          have HF := Aside0.mk hf
          have HY := Aside0.mk (And.intro hy hcy)
          have HLB := Aside0.mk (show (acc ++ w1o sa sb (Lb.take j) x).length ≤ 1100000000000 from by
            have h1 := HL.out
            have h2 := HKL.out
            have h3 := w1o_len sa sb (Lb.take j) x
            rw [List.length_take] at h3
            rw [List.length_append]; omega)
          obtain ⟨M, hM⟩ : ∃ M, acc ++ w1o sa sb (Lb.take j) x = M := ⟨_, rfl⟩
          rw [hM] at HN HLB
          have HM := Aside0.mk hM
          have a0 := cell_below HB.out HC.out.1
          have a1 := cell_below HB.out HC.out.2.1
          have b0 := cell_below HB.out HC.out.2.2.1
          have hx := cell_below HB.out HX.out.1
          have hy' := cell_below HB.out hy
          clear hly hye hf hy hcy hM
          have HC1 := Aside0.mk (And.intro (Kd.C_below (Kd.C_below HR.out.1.row HJ8.out.bel) HB.out) (And.intro (Kd.C_below HX.out.2 HB.out) (And.intro (Kd.C_below (Kd.C_below HR.out.2.1.row HJ8.out.bel) HB.out) (Kd.C_below HY.out.2 HB.out))))
          cases f with
          | false =>
            go_upto_region 9 with fail
            go_quiet ((go_at_call 48; exact Calls.quiet_of (fit_q _ HC1.out.1 HC1.out.2.1 HC1.out.2.2.1 HC1.out.2.2.2 HR.out.2.2.1.1.1.nodup HLX.out HLY.out rfl rfl rfl rfl false HF.out)))
            go_wp2
            go_roundw
            case rel => exact ⟨j + 1, by omega, by go_num, ⟨by rw [HNOT.out HF.out, HM.out]; exact Kd.N_below HN.out (pw_below_drewN (Below.refl _ _) _)⟩, ⟨below_then HB.out HB.out.size (pw_below_drewN (Below.refl _ _) _)⟩⟩
            case measure => simp [intOf]; omega
          | true =>
            go_upto_region 9 with fail
            go_quiet ((go_at_call 48; exact Calls.quiet_of (fit_q _ HC1.out.1 HC1.out.2.1 HC1.out.2.2.1 HC1.out.2.2.2 HR.out.2.2.1.1.1.nodup HLX.out HLY.out rfl rfl rfl rfl true HF.out)))
            generalize hdr : World.drewN _ _ = wd
            have hbd : Below wr.heap.size wr wd := by rw [← hdr]; exact pw_below_drewN (Below.refl _ _) _
            have HNW := Aside0.mk (Kd.N_below HN.out (below_then hbd hbd.size (below_drew (Below.refl wd.heap.size wd))))
            have HBW := Aside0.mk (below_then HB.out HB.out.size (below_then hbd hbd.size (below_drew (Below.refl wd.heap.size wd))))
            have HS8 := Aside0.mk (show ∀ W, Below W8.heap.size W8 W → W.cell? ⟨w.heap.size, 0, none⟩ = some (.slice A sa.length c) ∧ W.cell? ⟨w.heap.size, 1, none⟩ = some (.slice (some ad) La.length c') ∧ W.cell? ⟨w.heap.size + 1, 0, none⟩ = some (.slice B sb.length d) ∧ W.cell? ⟨w.heap.size + 1, 1, none⟩ = some (.slice (some bd) Lb.length d') ∧ W.cell? ⟨g5, 0, none⟩ = some (.slice A5 U.length c5) ∧ W.cell? (ad.add k) = some (.slice Bx x.length cx) ∧ W.cell? (bd.add j) = some (.slice By y.length cy) ∧ Below W8.heap.size W8 W from fun W hb => ⟨cell_below hb HC.out.1, cell_below hb HC.out.2.1, cell_below hb HC.out.2.2.1, cell_below hb HC.out.2.2.2.1, cell_below hb HC.out.2.2.2.2, cell_below hb HX.out.1, cell_below hb HY.out.1, hb⟩)
            have HSD := Aside0.mk (HS8.out _ HBW.out)
            have HCB := Aside0.mk (And.intro (Kd.C_below (Kd.C_below HR.out.1.row HJ8.out.bel) HBW.out) (And.intro (Kd.C_below HX.out.2 HBW.out) (And.intro (Kd.C_below (Kd.C_below HR.out.2.1.row HJ8.out.bel) HBW.out) (And.intro (Kd.C_below HY.out.2 HBW.out) (Kd.C_below HC8.out HBW.out)))))
            obtain ⟨z, hz⟩ : ∃ z, bothRow sa sb x y = z := ⟨_, rfl⟩
            have HZ := Aside0.mk hz
            have HZR := Aside0.mk (show (U.map fun a => if a ∈ sa then look sa x a else look sb y a) = z from by rw [← hz, ← HUJ.out.1]; rfl)
            have HIN := Aside0.mk (show ∀ a ∈ U, a ∈ sa ∨ a ∈ sb from fun a ha => mem_uni.1 (by rw [HUJ.out.1]; exact ha))
            have d0 := cell_below hbd a0
            have d1 := cell_below hbd a1
            have d2 := cell_below hbd b0
            have d3 := cell_below hbd b1
            clear hdr hbd hz a0 a1 b0 b1 hx hy'
            go_upto_region 11 with fail
            go_region_held3 (fun W => W.cell? ⟨w.heap.size, 0, none⟩ = some (.slice A sa.length c) ∧ W.cell? ⟨w.heap.size, 1, none⟩ = some (.slice (some ad) La.length c') ∧ W.cell? ⟨w.heap.size + 1, 0, none⟩ = some (.slice B sb.length d) ∧ W.cell? ⟨w.heap.size + 1, 1, none⟩ = some (.slice (some bd) Lb.length d') ∧ W.cell? ⟨g5, 0, none⟩ = some (.slice A5 U.length c5) ∧ W.cell? (ad.add k) = some (.slice Bx x.length cx) ∧ W.cell? (bd.add j) = some (.slice By y.length cy) ∧ Below W8.heap.size W8 W)
              (first | with_reducible exact HS10.out | with_reducible exact HSA.out _ | with_reducible exact HS9.out | with_reducible exact HSD.out)
              (first
                | (have hgd := HV9; clear hgd; refine Kd.N_append_step KL (w0 := W8) W8.heap.size (by rfl) (.tmp 47) (.tmp 65) 23 22 (.slice none 0 0) 24 rfl Tryz.underlying23 infoInts rfl (by decide) (by decide) _ M z [.slice A9 z.length c9] (fun q => W8.heap.size ≤ q) (fun q => wd.drew.heap.size ≤ q ∧ q < w9.heap.size) rfl rfl (FK_rowB HV9.out.1) (fun q hq => ⟨Nat.le_trans HBW.out.size hq.1, fun e => by have h1 := Kd.N_lt HNW.out q e.symm; have := hq.1; omega⟩) (fun q hq => Nat.le_trans HBW.out.size (Nat.le_trans HV9.out.2.size hq)) (Kd.N_below HNW.out HV9.out.2) (below_then HBW.out HBW.out.size HV9.out.2) (Nat.le_trans HBW.out.size HV9.out.2.size) (by have := HLB.out; omega) ?_; intro v10 w10 hN10 hB10 hg10 hat10; have HN10 := Aside0.mk (And.intro hN10 hB10); have HS10 := Aside0.mk (HS8.out _ hB10); clear hN10 hB10 hg10 hat10)
                | (go_at_call 70; refine (refboth_any HCB.out.1 HCB.out.2.1 HCB.out.2.2.1 HCB.out.2.2.2.1 HCB.out.2.2.2.2 HLX.out HLY.out rfl rfl rfl rfl rfl (by omega) HIN.out HZR.out).mono ?_; rintro e w9 ⟨v9, rfl, hv9, hb9⟩; obtain ⟨A9, c9, rfl, _, _⟩ := Kd.R_reads hv9; have HV9 := Aside0.mk (And.intro hv9 hb9); have hB9 := below_then HBW.out HBW.out.size hb9; have HS9 := Aside0.mk (HS8.out _ hB9); have HSA := Aside0.mk (fun o => HS8.out (w9.alloc o) (below_alloc hB9 o)); clear hv9 hb9 hB9))
            go_wp2
            go_roundw
            case rel => exact ⟨j + 1, by omega, by go_num, ⟨by rw [HYES.out HF.out, HZ.out, ← List.append_assoc, HM.out]; exact HN10.out.1⟩, ⟨HN10.out.2⟩⟩
            case measure => simp [intOf]; omega
        · rw [List.take_of_length_le (by omega)] at HN
          go_wp2
          go_roundw
          case rel => exact ⟨k + 1, by omega, by go_num, ⟨by rw [HAL.out]; exact HN.out⟩, HB, ⟨by rw [HAL.out, List.length_append, Nat.succ_mul]; have h1 := HL.out; have h2 := w1o_len sa sb Lb x; omega⟩⟩
          case measure => simp [intOf]; omega
    · rw [List.take_of_length_le (by omega)] at HN HL
      have hml : ((La.flatMap (w1o sa sb Lb)).length) ≤ 1000000000000 := Nat.le_trans HL.out (Nat.le_trans (Nat.mul_le_mul (by omega) hm1') (by decide : 1000000 * 1000000 ≤ 1000000000000))
      obtain ⟨M, hM⟩ : ∃ M, La.flatMap (w1o sa sb Lb) = M := ⟨_, rfl⟩
      have HSO := Aside0.mk (show Pl.sortU M = J from by rw [← hM, ← HUJ.out.2]; rfl)
      have HMX := Aside0.mk (show ∀ q ∈ M, q.length ≤ 1000000000000 from fun q hq => by
        rw [← hM] at hq
        obtain ⟨t, _, hq⟩ := List.mem_flatMap.1 hq
        obtain ⟨u, _, rfl⟩ := List.mem_map.1 hq
        rw [bothRow, List.length_map, HUJ.out.1]; omega)
      rw [hM] at HN hml
      clear hM HL
      obtain ⟨A9, c9, rfl, _, hC9⟩ := Kd.N_reads HN.out
      have HC9 := Aside0.mk hC9
      clear hC9
      go_wp2_with (go_at_call 34; refine (refsort_any HC9.out (by omega) HMX.out HSO.out).mono ?_; rintro e w9 ⟨v9, rfl, hv9, hb9⟩; obtain ⟨A7, c7, rfl⟩ := Kd.N_slice hv9; have hB9 := below_then HB.out HB.out.size hb9; have hz := (hB9.block _ (Array.getElem?_eq_some_iff.1 HG8.out).1).trans HG8.out; have hc := (hB9.block _ (Array.getElem?_eq_some_iff.1 HJ8.out.c).1).trans HJ8.out.c; have u0 := blk2_c1 hz; have u1 := blk_fr (i := 1) hz; have hz1 := blk2_s1 hz (.slice A7 J.length c7); have u2 := blk2_c0 hz1; have u3 := blk2_c1 hz1; have hc1 := (Below.heap_setCell w9 ⟨g5, 1, none⟩ (.slice A7 J.length c7) (w.heap.size + 1 + 1) (by have h := HLT.out; show w.heap.size + 1 + 1 ≠ g5; omega)).trans hc; have x0 := blk2_c0 hc1; have x1 := blk_fr (i := 0) hc1; have hs0 := blk2_s0 hc1 (.slice A5 U.length c5); have x2 := blk2_c1 hs0; have x3 := blk_fr (i := 1) hs0; have hs1 := blk2_s1 hs0 (.slice A7 J.length c7); have r0 := blk2_c0 hs1; have r1 := blk2_c1 hs1; have HFIN := Aside0.mk (And.intro hv9 (And.intro hB9 (And.intro hz (And.intro hc1 hs0)))); clear hv9 hb9 hB9 hz hz1 hc hc1 hs0 hs1)
      refine bodyPost_ret (v := .agg #[.slice A5 U.length c5, .slice A7 J.length c7]) (by simp [results, Tryz.results39, go_sem, r0, r1]) rfl ?_
      have hg8 : g5 < W8.heap.size := (Array.getElem?_eq_some_iff.1 HG8.out).1
      have hgw : g5 < wr.heap.size := Nat.lt_of_lt_of_le hg8 HB.out.size
      have hgl := HLT.out
      have hbw := below_then HJ8.out.bel HJ8.out.bel.size HB.out
      have hA := Kd.R_set (Kd.R_set (Kd.R_set (Kd.R_below HV8.out HFIN.out.2.1) HFIN.out.2.2.1 (int_ty _ (by decide)) 1 (.slice A7 J.length c7)) HFIN.out.2.2.2.1 (int_ty _ (by decide)) 0 (.slice A5 U.length c5)) HFIN.out.2.2.2.2 (int_ty _ (by decide)) 1 (.slice A7 J.length c7)
      have hN := Kd.N_far (Kd.N_far (Kd.N_far HFIN.out.1 (p := ⟨g5, 1, none⟩) (fun q hq => by have : wr.heap.size ≤ q := hq; show q ≠ g5; omega) (.slice A7 J.length c7)) (p := ⟨w.heap.size + 1 + 1, 0, none⟩) (fun q hq => by have : wr.heap.size ≤ q := hq; show q ≠ w.heap.size + 1 + 1; omega) (.slice A5 U.length c5)) (p := ⟨w.heap.size + 1 + 1, 1, none⟩) (fun q hq => by have : wr.heap.size ≤ q := hq; show q ≠ w.heap.size + 1 + 1; omega) (.slice A7 J.length c7)
      refine ⟨_, _, _, _, rfl, ⟨_, _, rfl, Kd.R_mono (Kd.R_bound hA) (fun k hk => hk.2.1), Kd.N_mono (Kd.N_lower hN hbw.size) (fun k hk => Nat.le_trans hbw.size hk)⟩, ?_⟩
      exact (((below_then HJ8.out.bel HJ8.out.bel.size HFIN.out.2.1).setCell (p := ⟨g5, 1, none⟩) (show w.heap.size ≤ g5 by omega) _).setCell (p := ⟨w.heap.size + 1 + 1, 0, none⟩) (show w.heap.size ≤ w.heap.size + 1 + 1 by omega) _).setCell (p := ⟨w.heap.size + 1 + 1, 1, none⟩) (show w.heap.size ≤ w.heap.size + 1 + 1 by omega) _
end Go.Proofs.YtlmkgghpaaadhaaGreatDoor.G

/- The document's weight of a row, walked. -/
set_option linter.unusedVariables false
set_option linter.unusedSimpArgs false
namespace Go.Proofs.YtlmkgghpaaadhaaGreatDoor.G
open Go.RowKit Go.Proofs.YtlmkgghpaaadhaaGreatDoorW.PrintWords Go.Proofs.YtlmkgghpaaadhaaGreatDoorW.PrintLast Go.Proofs.YtlmkgghpaaadhaaGreatDoorW.PrintMore Go.Proofs.YtlmkgghpaaadhaaGreatDoor.PRefs

set_option maxHeartbeats 8000000 in
set_option maxRecDepth 100000 in
theorem weight4_any {A A' A4 Au At : Option Addr} {c c' c4 cu ct : Nat} {sc : List Int} {L : List (List Int)} {ws u t : List Int} {w : World} (h : RelRd w A c sc A' c' L) (hD : Kd.C KWt w A4 L.length (dW ws)) (hw : ws.length = L.length) (hr : RightP sc L) {n2 n3 : Nat} (hu : Kd.C KI w Au u.length u) (ht : Kd.C KI w At t.length t) (h2 : u.length = n2) (h3 : t.length = n3) (hru : Rise u) (hsub : ∀ a ∈ sc, a ∈ u) (htl : t.length = u.length) {v : Int} (hv : weightOf sc L ws u t = v) :
    Calls Tryz.prog 40 #[.agg #[.slice A sc.length c, .slice A' L.length c', .slice A4 L.length c4], .slice Au n2 cu, .slice At n3 ct] w fun e w' => e = .returned (.agg #[.int .i64 v, .int .i64 0]) ∧ Below w.heap.size w w' := by
  subst h2 h3
  have HR := Aside0.mk (And.intro h (And.intro hD (And.intro hw (And.intro hr (And.intro hu ht)))))
  have HLT := Aside0.mk htl
  have HPK := Aside0.mk (fun (y : List Int) (hy : y.length = sc.length) => fits_cut hru hr.1.1 hsub hy htl)
  obtain ⟨pk, hpk⟩ : ∃ pk, pick t (sc.map (idx u)) = pk := ⟨_, rfl⟩
  rw [hpk] at HPK
  have HV := Aside0.mk (show (if pk ∈ L ∧ pos L pk < ws.length then rd ws (pos L pk : Int) else 0) = v from by rw [← hv, weightOf, hpk])
  have hmL : L.length ≤ 9223372036854775807 := h.rows.2.1
  obtain ⟨W0, hW0⟩ : ∃ W0, (w.alloc (.cells #[.slice A sc.length c, .slice A' L.length c', .slice A4 L.length c4] 34)).alloc (.cells #[.int .i64 0, .int .i64 0] 68) = W0 := ⟨_, rfl⟩
  have H0 := Aside0.mk (show Below w.heap.size w W0 ∧ W0.heap[w.heap.size]? = some (.cells #[.slice A sc.length c, .slice A' L.length c', .slice A4 L.length c4] 34 (0, 0)) ∧ W0.heap[w.heap.size + 1]? = some (.cells #[.int .i64 0, .int .i64 0] 68 (0, 0)) from by
    rw [← hW0]
    exact ⟨below_alloc (below_alloc (Below.refl _ _) _) _, blk_two1 _ _ _, blk_two2 _ _ _⟩)
  clear h hD hw hr hu ht hru hsub htl hv hpk
  go_enter Tryz.func40, Tryz.ntmps40
  go_wp2_with fail
  clear hW0
  go_loopw [7] (fun i W => ∃ k : Nat, k ≤ L.length ∧ i = .int .i64 k ∧ Aside0 (∀ j, j < k → L.getD j [] ≠ pk) ∧ Aside0 (Below W0.heap.size W0 W)) (fun i _ => L.length - (intOf i).toNat)
  case atStart => exact ⟨0, Nat.zero_le _, rfl, ⟨fun j hj => by omega⟩, ⟨Below.refl _ _⟩⟩
  case round =>
    obtain ⟨k, hk, rfl, HNE, HB⟩ := hrel
    have HBW := Aside0.mk (below_then H0.out.1 H0.out.1.size HB.out)
    obtain ⟨q0, q1, q2⟩ := blk3_c ((HB.out.block _ (Array.getElem?_eq_some_iff.1 H0.out.2.1).1).trans H0.out.2.1)
    by_cases hlt : k < L.length
    · have hkl : (k : Int) < (L.length : Int) := by omega
      obtain ⟨ad, By, cy, hA', hy, hly, hcy⟩ := at_row HR.out.1.rows HBW.out k hlt
      subst hA'
      have HLY := Aside0.mk (show (L.getD k []).length = sc.length from HR.out.2.2.2.1.2.1 _ (by rw [getD_get _ _ hlt]; exact List.getElem_mem hlt))
      obtain ⟨y, hye⟩ : ∃ y, L.getD k [] = y := ⟨_, rfl⟩
      rw [hye] at hy hcy HLY
      have HYE := Aside0.mk hye
      obtain ⟨f, hf⟩ : ∃ f, fits sc u y t = f := ⟨_, rfl⟩
      have HF := Aside0.mk hf
      have HC1 := Aside0.mk (And.intro (Kd.C_below HR.out.1.row HBW.out) (And.intro hcy (And.intro (Kd.C_below HR.out.2.2.2.2.1 HBW.out) (Kd.C_below HR.out.2.2.2.2.2 HBW.out))))
      clear hly hye hf hcy
      cases f with
      | false =>
        go_upto_region 4 with fail
        go_quiet ((go_at_call 48; exact Calls.quiet_of (fit_q _ HC1.out.1 HC1.out.2.1 HC1.out.2.2.1 HC1.out.2.2.2 HR.out.2.2.2.1.1.1.nodup HLY.out HLT.out rfl rfl rfl rfl false HF.out)))
        go_wp2
        go_roundw
        case rel => exact ⟨k + 1, by omega, by go_num, ⟨fun j hj => by
          rcases Nat.lt_or_ge j k with hjk | hjk
          · exact HNE.out j hjk
          · obtain rfl : j = k := by omega
            rw [HYE.out]
            intro e
            have h1 := (HPK.out y HLY.out).2 e.symm
            rw [HF.out] at h1
            cases h1⟩, ⟨below_then HB.out HB.out.size (pw_below_drewN (Below.refl _ _) _)⟩⟩
        case measure => simp [intOf]; omega
      | true =>
        have HVR := Aside0.mk (show rd ws (k : Int) = v from by
          have h1 := (HPK.out y HLY.out).1 HF.out
          have h2 : pk = L[k] := by rw [h1, ← HYE.out, getD_get _ _ hlt]
          rw [← HV.out, h2, pos_self HR.out.2.2.2.1.2.2 k hlt, if_pos ⟨List.getElem_mem hlt, by rw [HR.out.2.2.1]; exact hlt⟩])
        go_upto_region 4 with fail
        go_quiet ((go_at_call 48; exact Calls.quiet_of (fit_q _ HC1.out.1 HC1.out.2.1 HC1.out.2.2.1 HC1.out.2.2.2 HR.out.2.2.2.1.1.1.nodup HLY.out HLT.out rfl rfl rfl rfl true HF.out)))
        generalize hdr : World.drewN _ _ = wd
        have hbd : Below wr.heap.size wr wd := by rw [← hdr]; exact pw_below_drewN (Below.refl _ _) _
        have HBD := Aside0.mk (below_then HB.out HB.out.size hbd)
        obtain ⟨adW, hA4, he0, he1⟩ := at_T68 HR.out.2.1 (k : Int) (by omega) hkl
        subst hA4
        rw [rd_dW (by rw [HR.out.2.2.1]; exact hlt), HVR.out] at he0 he1
        simp only [Int.toNat_natCast] at he0 he1
        have hBW := below_then H0.out.1 H0.out.1.size HBD.out
        have x0 := cell_below hBW he0
        have x1 := cell_below hBW he1
        have x2 := cell_below hbd q2
        have hT := (HBD.out.block _ (Array.getElem?_eq_some_iff.1 H0.out.2.2).1).trans H0.out.2.2
        have hs0 := blk2_s0 hT (.int .i64 v)
        have t0 := blk2_c0 hT
        have t1 := blk_fr (i := 0) hT
        have t2 := blk2_c1 hs0
        have t3 := blk_fr (i := 1) hs0
        have t4 := blk2_s1 hs0 (.int .i64 0)
        have r0 := blk2_c0 t4
        have r1 := blk2_c1 t4
        have HBE := Aside0.mk (below_set (below_set hBW (g := w.heap.size + 1) (j := 0) (v := .int .i64 v) (by omega)) (g := w.heap.size + 1) (j := 1) (v := .int .i64 0) (by omega))
        clear hdr hbd q0 q1 q2 he0 he1 hy hs0 hT hBW t4
        go_wp2
        refine bodyPost_ret (v := .agg #[.int .i64 v, .int .i64 0]) (by simp [results, Tryz.results40, go_sem, r0, r1]) rfl ?_
        exact ⟨rfl, HBE.out⟩
    · have HV0 := Aside0.mk (show v = 0 from by
        rw [← HV.out, if_neg]
        rintro ⟨hm, -⟩
        obtain ⟨j, hj, hje⟩ := List.getElem_of_mem hm
        exact HNE.out j (by omega) (by rw [getD_get _ _ hj]; exact hje))
      have hT := (HB.out.block _ (Array.getElem?_eq_some_iff.1 H0.out.2.2).1).trans H0.out.2.2
      have hs0 := blk2_s0 hT (.int .i64 0)
      have t0 := blk2_c0 hT
      have t1 := blk_fr (i := 0) hT
      have t2 := blk2_c1 hs0
      have t3 := blk_fr (i := 1) hs0
      have t4 := blk2_s1 hs0 (.int .i64 0)
      have r0 := blk2_c0 t4
      have r1 := blk2_c1 t4
      have HBE := Aside0.mk (below_set (below_set HBW.out (g := w.heap.size + 1) (j := 0) (v := .int .i64 0) (by omega)) (g := w.heap.size + 1) (j := 1) (v := .int .i64 0) (by omega))
      clear q0 q2 hs0 hT t4
      go_wp2
      refine bodyPost_ret (v := .agg #[.int .i64 0, .int .i64 0]) (by simp [results, Tryz.results40, go_sem, r0, r1]) rfl ?_
      exact ⟨by rw [HV0.out], HBE.out⟩
end Go.Proofs.YtlmkgghpaaadhaaGreatDoor.G

/- The document's Times and Plus, walked. -/
set_option linter.unusedVariables false
set_option linter.unusedSimpArgs false
namespace Go.Proofs.YtlmkgghpaaadhaaGreatDoor.G
open Go.RowKit Go.Proofs.YtlmkgghpaaadhaaGreatDoorW.PrintWords Go.Proofs.YtlmkgghpaaadhaaGreatDoorW.PrintLast Go.Proofs.YtlmkgghpaaadhaaGreatDoorW.PrintMore Go.Proofs.YtlmkgghpaaadhaaGreatDoor.PRefs

def TimesTo (w w' : World) (e : Ending) (r : WRel) (n : Int) : Prop :=
  ∃ A c A' c' A4 c4, e = .returned (.tuple #[.agg #[.slice A r.sc.length c, .slice A' r.L.length c', .slice A4 r.L.length c4], .int .i64 n]) ∧ RelRd w' A c r.sc A' c' r.L ∧ Kd.C KWt w' A4 r.L.length (dW r.ws) ∧ Below w.heap.size w w'
structure Tx3 (w W : World) (a0 a1 a2 b0 b1 b2 : Value) : Prop where
  bel : Below w.heap.size w W
  a : W.heap[w.heap.size]? = some (.cells #[a0, a1, a2] 34 (0, 0))
  b : W.heap[w.heap.size + 1]? = some (.cells #[b0, b1, b2] 34 (0, 0))
  c : W.heap[w.heap.size + 1 + 1]? = some (.cells #[.slice none 0 0, .slice none 0 0, .slice none 0 0] 34 (0, 0))
theorem Tx3.new (w : World) (a0 a1 a2 b0 b1 b2 : Value) : Tx3 w (((w.alloc (.cells #[a0, a1, a2] 34)).alloc (.cells #[b0, b1, b2] 34)).alloc (.cells #[.slice none 0 0, .slice none 0 0, .slice none 0 0] 34)) a0 a1 a2 b0 b1 b2 := by
  refine ⟨below_alloc (below_alloc (below_alloc (Below.refl _ _) _) _) _, (Below.heap_alloc _ _ _ (by simp; omega)).trans (blk_two1 _ _ _), (Below.heap_alloc _ _ _ (by simp)).trans (blk_two2 _ _ _), ?_⟩
  have h := heap_alloc_new ((w.alloc (.cells #[a0, a1, a2] 34)).alloc (.cells #[b0, b1, b2] 34)) (.cells #[.slice none 0 0, .slice none 0 0, .slice none 0 0] 34)
  simpa using h
theorem Tx3.step {w W W1 : World} {a0 a1 a2 b0 b1 b2 : Value} (h : Tx3 w W a0 a1 a2 b0 b1 b2) (hb : Below W.heap.size W W1) : Tx3 w W1 a0 a1 a2 b0 b1 b2 :=
  ⟨below_then h.bel h.bel.size hb, (hb.block _ (Array.getElem?_eq_some_iff.1 h.a).1).trans h.a, (hb.block _ (Array.getElem?_eq_some_iff.1 h.b).1).trans h.b, (hb.block _ (Array.getElem?_eq_some_iff.1 h.c).1).trans h.c⟩
theorem blk_atT {P w4 : World} (hb : Below P.heap.size P w4) {g : Nat} {o : Obj} (hP : P.heap[g]? = some o) : w4.heap[g]? = some o := (hb.block _ (Array.getElem?_eq_some_iff.1 hP).1).trans hP
def fDoc (plus : Bool) : WF := if plus then fPlus else fTimes
set_option maxHeartbeats 8000000 in
set_option maxRecDepth 100000 in
theorem times4_any {A A' A4 B B' B4 : Option Addr} {c c' c4 d d' d4 : Nat} {sa sb : List Int} {La Lb : List (List Int)} {wa wb : List Int} {w : World} (h : RelRd w A c sa A' c' La) (hD : Kd.C KWt w A4 La.length (dW wa)) (hw : wa.length = La.length) (hr : RightP sa La) (hin : InW wa)
    (h' : RelRd w B d sb B' d' Lb) (hD' : Kd.C KWt w B4 Lb.length (dW wb)) (hw' : wb.length = Lb.length) (hr' : RightP sb Lb) (hin' : InW wb) (hm : sa.length ≤ 1000000) (hm' : sb.length ≤ 1000000) (hm1 : La.length ≤ 1000000) (hm1' : Lb.length ≤ 1000000)
    (hmj : (joinRows sa La sb Lb).length ≤ 1000000) (rows : Int) (plus : Bool) {r : WRel} {n : Int} (hrn : joinedTo (fDoc plus) ⟨sa, La, wa⟩ ⟨sb, Lb, wb⟩ rows = (r, n)) :
    Calls Tryz.prog 18 #[.agg #[.slice A sa.length c, .slice A' La.length c', .slice A4 La.length c4], .agg #[.slice B sb.length d, .slice B' Lb.length d', .slice B4 Lb.length d4], .int .i64 rows, .int .i64 4611686018427387904, .bool plus] w fun e w' => TimesTo w w' e r n := by
  have HA := Aside0.mk (And.intro h (And.intro hD (And.intro hw (And.intro hr hin))))
  have HB := Aside0.mk (And.intro h' (And.intro hD' (And.intro hw' (And.intro hr' hin'))))
  obtain ⟨U, hU⟩ : ∃ U, uni sa sb = U := ⟨_, rfl⟩
  obtain ⟨J, hJ⟩ : ∃ J, joinRows sa La sb Lb = J := ⟨_, rfl⟩
  have hul : U.length ≤ 2000000 := by rw [← hU]; have := uni_len sa sb; omega
  have HUJ := Aside0.mk (And.intro hU hJ)
  have HU := Aside0.mk (show Rise U ∧ (∀ a ∈ sa, a ∈ U) ∧ (∀ a ∈ sb, a ∈ U) ∧ ∀ t ∈ J, t.length = U.length from by
    rw [← hU, ← hJ]
    exact ⟨merge_rise _ _ hr.1.1 hr'.1.1, fun a ha => mem_uni.2 (.inl ha), fun a ha => mem_uni.2 (.inr ha), fun t ht => ((mem_join hr hr' t).1 ht).1⟩)
  rw [hJ] at hmj
  obtain ⟨F, hF⟩ : ∃ F, wRow (fDoc plus) sa La wa sb Lb wb = F := ⟨_, rfl⟩
  have HRN := Aside0.mk (show (if (J.length : Int) ≤ rows then (if ∀ t ∈ J, (F t).2 = true then ((⟨U, J, J.map fun t => (F t).1⟩ : WRel), (0 : Int)) else (⟨[], [], []⟩, 11)) else (⟨[], [], []⟩, 9)) = (r, n) from by rw [← hU, ← hJ, ← hF]; exact hrn)
  have HF := Aside0.mk (show ∀ t, F t = fDoc plus (weightOf sa La wa U t) (weightOf sb Lb wb U t) from fun t => by rw [← hF, ← hU]; rfl)
  obtain ⟨SS, hSS⟩ : ∃ SS, (J.map fun t => (F t).1) = SS := ⟨_, rfl⟩
  rw [hSS] at HRN
  have HSS := Aside0.mk hSS
  have HSSL := Aside0.mk (show SS.length = J.length from by rw [← hSS, List.length_map])
  clear hF hSS
  have hx0 := Tx3.new w (.slice A sa.length c) (.slice A' La.length c') (.slice A4 La.length c4) (.slice B sb.length d) (.slice B' Lb.length d') (.slice B4 Lb.length d4)
  obtain ⟨W0, hW0⟩ : ∃ W0, ((w.alloc (.cells #[.slice A sa.length c, .slice A' La.length c', .slice A4 La.length c4] 34)).alloc (.cells #[.slice B sb.length d, .slice B' Lb.length d', .slice B4 Lb.length d4] 34)).alloc (.cells #[.slice none 0 0, .slice none 0 0, .slice none 0 0] 34) = W0 := ⟨_, rfl⟩
  rw [hW0] at hx0
  have H0 := Aside0.mk hx0
  obtain ⟨q0, q1, q2⟩ := blk3_c hx0.a
  obtain ⟨q3, q4, q5⟩ := blk3_c hx0.b
  clear h hD hw hr hin h' hD' hw' hr' hin' hU hJ hrn hx0
  go_enter Tryz.func18, Tryz.ntmps18
  go_upto_region 2 with (go_at_call 39; refine (refjoin3_any (HA.out.1.step H0.out.bel) (HB.out.1.step H0.out.bel) HA.out.2.2.2.1 HB.out.2.2.2.1 hm hm' hm1 hm1' HUJ.out.1 HUJ.out.2).mono ?_; rintro e w1 ⟨A5, c5, A7, c7, rfl, hM, hb⟩; have HM1 := Aside0.mk (And.intro hM hb); clear hM hb)
  clear hW0 q0 q1 q2 q3 q4 q5
  have HWO := Aside0.mk (WOutD.new w1 (.slice A5 U.length c5) (.slice A7 J.length c7))
  have H1 := Aside0.mk (H0.out.step HM1.out.2)
  have HRD := Aside0.mk (show RelRd w1 A5 c5 U A7 c7 J from RelM.rd' HM1.out.1)
  generalize w1.alloc (.cells #[.slice A5 U.length c5, .slice A7 J.length c7, .slice none 0 0] 34) = W5 at HWO ⊢
  obtain ⟨g, hg⟩ : ∃ g, w1.heap.size = g := ⟨_, rfl⟩
  have HG := Aside0.mk hg
  rw [hg]
  clear hg
  have hbo := HWO.out.blk
  rw [HG.out] at hbo
  obtain ⟨s0, s1, s2⟩ := blk3_c hbo
  clear hbo
  by_cases hgt : rows < (J.length : Int)
  · have hgd : decide (rows < (J.length : Int)) = true := decide_eq_true hgt
    have HE := Aside0.mk (show (⟨[], [], []⟩ : WRel) = r ∧ (9 : Int) = n from by have h := HRN.out; rw [if_neg (by omega)] at h; exact Prod.mk.inj h)
    have HB9 := Aside0.mk (below_then H1.out.bel H1.out.bel.size HWO.out.bel)
    have hz9 := (HWO.out.bel.block _ (Array.getElem?_eq_some_iff.1 H1.out.c).1).trans H1.out.c
    obtain ⟨⟨p0, p1⟩, ⟨p2, p3⟩, ⟨p4, p5⟩⟩ := blk3_put hz9 (.slice none 0 0) (.slice none 0 0) (.slice none 0 0)
    obtain ⟨r0, r1, r2⟩ := blk3_c (blk3_three hz9 (.slice none 0 0) (.slice none 0 0) (.slice none 0 0))
    clear hz9
    go_wp2
    refine bodyPost_ret (v := .tuple #[.agg #[.slice none 0 0, .slice none 0 0, .slice none 0 0], .int .i64 9]) (by simp [results, Tryz.results18, go_sem, r0, r1, r2]) rfl ?_
    obtain ⟨e1, e2⟩ := HE.out
    subst e1 e2
    exact ⟨none, 0, none, 0, none, 0, rfl, RelM.rd' (RelM.none_ _ 0), Kd.C_nil _ _, ((HB9.out.setCell (p := ⟨w.heap.size + 1 + 1, 0, none⟩) (by show w.heap.size ≤ w.heap.size + 1 + 1; omega) _).setCell (p := ⟨w.heap.size + 1 + 1, 1, none⟩) (by show w.heap.size ≤ w.heap.size + 1 + 1; omega) _).setCell (p := ⟨w.heap.size + 1 + 1, 2, none⟩) (by show w.heap.size ≤ w.heap.size + 1 + 1; omega) _⟩
  · have hgd : decide (rows < (J.length : Int)) = false := decide_eq_false hgt
    go_wp2_with fail
    clear s0 s1 s2 hgd
    go_loopw [13] (fun i W => ∃ (k : Nat) (s : Value), k ≤ J.length ∧ i = .int .i64 k ∧ Aside0 (∀ t ∈ J.take k, (F t).2 = true) ∧ Aside0 (WOutD w1 (.slice A5 U.length c5) (.slice A7 J.length c7) s (dW (SS.take k)) W)) (fun i _ => J.length - (intOf i).toNat)
    case atStart => exact ⟨0, _, Nat.zero_le _, rfl, ⟨by simp⟩, HWO⟩
    case round =>
      clear HWO
      obtain ⟨k, s, hk, rfl, HPK, HO⟩ := hrel
      obtain ⟨As, cs, rfl⟩ := Kd.R_slice HO.out.row
      have hlk : (dW (SS.take k)).length = k := by rw [dW_len, List.length_take, HSSL.out]; omega
      have HLK := Aside0.mk hlk
      rw [hlk] at HO
      have hbo := HO.out.blk
      rw [HG.out] at hbo
      obtain ⟨s0, s1, s2⟩ := blk3_c hbo
      have HSB := Aside0.mk hbo
      clear hbo hlk
      by_cases hlt : k < J.length
      · have hkl : (k : Int) < (J.length : Int) := by omega
        obtain ⟨adR, Bx, cx, hA7, hx, hlx, hcx⟩ := at_row HRD.out.rows HO.out.bel k hlt
        subst hA7
        have HX := Aside0.mk (show (J.getD k []).length = U.length from HU.out.2.2.2 _ (by rw [getD_get _ _ hlt]; exact List.getElem_mem hlt))
        have HPG := Aside0.mk (show J.take (k + 1) = J.take k ++ [J.getD k []] from by rw [List.take_succ_eq_append_getElem hlt, getD_get _ _ hlt])
        obtain ⟨x, hxe⟩ : ∃ x, J.getD k [] = x := ⟨_, rfl⟩
        rw [hxe] at hx hcx HX HPG
        obtain ⟨q0, q1, q2⟩ := blk3_c ((HO.out.bel.block _ (Array.getElem?_eq_some_iff.1 H1.out.a).1).trans H1.out.a)
        obtain ⟨q3, q4, q5⟩ := blk3_c ((HO.out.bel.block _ (Array.getElem?_eq_some_iff.1 H1.out.b).1).trans H1.out.b)
        have HCX := Aside0.mk hcx
        have HHX := Aside0.mk hx
        clear hcx hlx hxe
        obtain ⟨xw, hxw⟩ : ∃ xw, weightOf sa La wa U x = xw := ⟨_, rfl⟩
        obtain ⟨yw, hyw⟩ : ∃ yw, weightOf sb Lb wb U x = yw := ⟨_, rfl⟩
        have HXI := Aside0.mk (show xw.natAbs ≤ 4611686018427387904 ∧ yw.natAbs ≤ 4611686018427387904 from ⟨by rw [← hxw]; exact weightOf_in HA.out.2.2.2.2 _ _, by rw [← hyw]; exact weightOf_in HB.out.2.2.2.2 _ _⟩)
        have HFX := Aside0.mk (show F x = fDoc plus xw yw from by rw [HF.out, hxw, hyw])
        have HXW := Aside0.mk hxw
        have HYW := Aside0.mk hyw
        have HBW := Aside0.mk (below_then H1.out.bel H1.out.bel.size HO.out.bel)
        have HAW := Aside0.mk (And.intro (HA.out.1.step HBW.out) (And.intro (Kd.C_below HA.out.2.1 HBW.out) (And.intro HA.out.2.2.1 HA.out.2.2.2.1)))
        have HUX := Aside0.mk (And.intro (Kd.C_below HRD.out.row HO.out.bel) HCX.out)
        clear hxw hyw
        go_upto_region 7 with fail
        have HST := Aside0.mk (show ∀ W, Below wr.heap.size wr W → W.cell? ⟨w.heap.size, 0, none⟩ = some (.slice A sa.length c) ∧ W.cell? ⟨w.heap.size, 1, none⟩ = some (.slice A' La.length c') ∧ W.cell? ⟨w.heap.size, 2, none⟩ = some (.slice A4 La.length c4) ∧ W.cell? ⟨g, 0, none⟩ = some (.slice A5 U.length c5) ∧ W.cell? ⟨g, 1, none⟩ = some (.slice (some adR) J.length c7) ∧ W.cell? (adR.add k) = some (.slice Bx x.length cx) ∧ Below wr.heap.size wr W from fun W hb => ⟨cell_below hb q0, cell_below hb q1, cell_below hb q2, cell_below hb s0, cell_below hb s1, cell_below hb hx, hb⟩)
        go_cut [14] (fun s14 W => ∃ gx : Nat, s14 = .pointer (some ⟨gx, 0, none⟩) ∧ Aside0 (Below wr.heap.size wr W ∧ W.heap[gx]? = some (.cells #[.int .i64 xw, .int .i64 0] 68 (0, 0)) ∧ wr.heap.size ≤ gx))
        case first =>
          have HSB := Aside0.mk (show ∀ {W : World}, (W.cell? ⟨w.heap.size, 0, none⟩ = some (.slice A sa.length c) ∧ W.cell? ⟨w.heap.size, 1, none⟩ = some (.slice A' La.length c') ∧ W.cell? ⟨w.heap.size, 2, none⟩ = some (.slice A4 La.length c4) ∧ W.cell? ⟨g, 0, none⟩ = some (.slice A5 U.length c5) ∧ W.cell? ⟨g, 1, none⟩ = some (.slice (some adR) J.length c7) ∧ W.cell? (adR.add k) = some (.slice Bx x.length cx) ∧ Below wr.heap.size wr W) → Below wr.heap.size wr W from fun {W} h => h.2.2.2.2.2.2)
          have HSDA := Aside0.mk (HST.out _ (below_drew (Below.refl _ _)))
          go_region_held3 (fun W => W.cell? ⟨w.heap.size, 0, none⟩ = some (.slice A sa.length c) ∧ W.cell? ⟨w.heap.size, 1, none⟩ = some (.slice A' La.length c') ∧ W.cell? ⟨w.heap.size, 2, none⟩ = some (.slice A4 La.length c4) ∧ W.cell? ⟨g, 0, none⟩ = some (.slice A5 U.length c5) ∧ W.cell? ⟨g, 1, none⟩ = some (.slice (some adR) J.length c7) ∧ W.cell? (adR.add k) = some (.slice Bx x.length cx) ∧ Below wr.heap.size wr W)
            (first | with_reducible exact HS9.out | with_reducible exact HSA.out _ | with_reducible exact HSC.out | with_reducible exact HSDA.out | with_reducible exact HST.out _ (below_alloc (below_drew (Below.refl _ _)) _) | with_reducible exact HST.out _ (below_drew (below_alloc (Below.refl _ _) _)))
            (first
              | (go_at_call 40; refine (weight4_any (HAW.out.1.step (HSB.out (by assumption))) (Kd.C_below HAW.out.2.1 (HSB.out (by assumption))) HAW.out.2.2.1 HAW.out.2.2.2 (Kd.C_below HUX.out.1 (HSB.out (by assumption))) (Kd.C_below HUX.out.2 (HSB.out (by assumption))) rfl rfl HU.out.1 HU.out.2.1 HX.out HXW.out).mono ?_; rintro e w9 ⟨rfl, hb9⟩; have hB9 := below_then (HSB.out (by assumption)) (HSB.out (by assumption)).size hb9; have HB9 := Aside0.mk hB9; have HS9 := Aside0.mk (HST.out _ hB9); have HSA := Aside0.mk (fun o => HST.out (w9.alloc o) (below_alloc hB9 o)); (first | (have hbk := blk_atT hb9 (heap_alloc_new wr (.cells #[.int .i64 0, .int .i64 0] 68))) | skip); try (have hs0 := blk2_s0 hbk (.int .i64 xw); have t0 := blk2_c0 hbk; have t1 := blk_fr (i := 0) hbk; have t2 := blk2_c1 hs0; have t3 := blk_fr (i := 1) hs0; have hs1 := blk2_s1 hs0 (.int .i64 0); have HP := Aside0.mk (And.intro (below_set (below_set hB9 (g := wr.heap.size) (j := 0) (v := .int .i64 xw) (Nat.le_refl _)) (g := wr.heap.size) (j := 1) (v := .int .i64 0) (Nat.le_refl _)) (And.intro hs1 (Nat.le_refl wr.heap.size))); have HSC := Aside0.mk (HST.out _ HP.out.1); clear hbk hs0 hs1); clear hb9 hB9))
          all_goals
            first
            | (have hgd := HP; clear hgd; (try (go_wp2_with fail)); go_meet; case rel => exact ⟨_, rfl, HP⟩)
            | ((try (go_wp2_with fail)); go_meet; case rel => exact ⟨_, rfl, ⟨below_alloc HB9.out _, heap_alloc_new _ _, HB9.out.size⟩⟩)
        case rest =>
          obtain ⟨g14, rfl, H7⟩ := hcut
          rename World => w7
          replace s0 := cell_below H7.out.1 s0
          replace s1 := cell_below H7.out.1 s1
          replace s2 := cell_below H7.out.1 s2
          replace hx := cell_below H7.out.1 hx
          replace q3 := cell_below H7.out.1 q3
          replace q4 := cell_below H7.out.1 q4
          replace q5 := cell_below H7.out.1 q5
          have HBW7 := Aside0.mk (below_then HBW.out HBW.out.size H7.out.1)
          have HBL := Aside0.mk (And.intro (HB.out.1.step HBW7.out) (And.intro (Kd.C_below HB.out.2.1 HBW7.out) (And.intro HB.out.2.2.1 HB.out.2.2.2.1)))
          replace HUX := Aside0.mk (And.intro (Kd.C_below HUX.out.1 H7.out.1) (Kd.C_below HUX.out.2 H7.out.1))
          clear HST q0 q1 q2
          go_upto_region 8 with fail
          have HST := Aside0.mk (show ∀ W, Below w7.heap.size w7 W → W.cell? ⟨w.heap.size + 1, 0, none⟩ = some (.slice B sb.length d) ∧ W.cell? ⟨w.heap.size + 1, 1, none⟩ = some (.slice B' Lb.length d') ∧ W.cell? ⟨w.heap.size + 1, 2, none⟩ = some (.slice B4 Lb.length d4) ∧ W.cell? ⟨g, 0, none⟩ = some (.slice A5 U.length c5) ∧ W.cell? ⟨g, 1, none⟩ = some (.slice (some adR) J.length c7) ∧ W.cell? (adR.add k) = some (.slice Bx x.length cx) ∧ Below w7.heap.size w7 W from fun W hb => ⟨cell_below hb q3, cell_below hb q4, cell_below hb q5, cell_below hb s0, cell_below hb s1, cell_below hb hx, hb⟩)
          go_cut [15] (fun s14 W => ∃ gx : Nat, s14 = .pointer (some ⟨gx, 0, none⟩) ∧ Aside0 (Below w7.heap.size w7 W ∧ W.heap[gx]? = some (.cells #[.int .i64 yw, .int .i64 0] 68 (0, 0)) ∧ w7.heap.size ≤ gx))
          case first =>
            have HSB := Aside0.mk (show ∀ {W : World}, (W.cell? ⟨w.heap.size + 1, 0, none⟩ = some (.slice B sb.length d) ∧ W.cell? ⟨w.heap.size + 1, 1, none⟩ = some (.slice B' Lb.length d') ∧ W.cell? ⟨w.heap.size + 1, 2, none⟩ = some (.slice B4 Lb.length d4) ∧ W.cell? ⟨g, 0, none⟩ = some (.slice A5 U.length c5) ∧ W.cell? ⟨g, 1, none⟩ = some (.slice (some adR) J.length c7) ∧ W.cell? (adR.add k) = some (.slice Bx x.length cx) ∧ Below w7.heap.size w7 W) → Below w7.heap.size w7 W from fun {W} h => h.2.2.2.2.2.2)
            have HSDA := Aside0.mk (HST.out _ (below_drew (Below.refl _ _)))
            go_region_held3 (fun W => W.cell? ⟨w.heap.size + 1, 0, none⟩ = some (.slice B sb.length d) ∧ W.cell? ⟨w.heap.size + 1, 1, none⟩ = some (.slice B' Lb.length d') ∧ W.cell? ⟨w.heap.size + 1, 2, none⟩ = some (.slice B4 Lb.length d4) ∧ W.cell? ⟨g, 0, none⟩ = some (.slice A5 U.length c5) ∧ W.cell? ⟨g, 1, none⟩ = some (.slice (some adR) J.length c7) ∧ W.cell? (adR.add k) = some (.slice Bx x.length cx) ∧ Below w7.heap.size w7 W)
              (first | with_reducible exact HS9.out | with_reducible exact HSA.out _ | with_reducible exact HSC.out | with_reducible exact HSDA.out | with_reducible exact HST.out _ (below_alloc (below_drew (Below.refl _ _)) _) | with_reducible exact HST.out _ (below_drew (below_alloc (Below.refl _ _) _)))
              (first
                | (go_at_call 40; refine (weight4_any (HBL.out.1.step (HSB.out (by assumption))) (Kd.C_below HBL.out.2.1 (HSB.out (by assumption))) HBL.out.2.2.1 HBL.out.2.2.2 (Kd.C_below HUX.out.1 (HSB.out (by assumption))) (Kd.C_below HUX.out.2 (HSB.out (by assumption))) rfl rfl HU.out.1 HU.out.2.2.1 HX.out HYW.out).mono ?_; rintro e w9 ⟨rfl, hb9⟩; have hB9 := below_then (HSB.out (by assumption)) (HSB.out (by assumption)).size hb9; have HB9 := Aside0.mk hB9; have HS9 := Aside0.mk (HST.out _ hB9); have HSA := Aside0.mk (fun o => HST.out (w9.alloc o) (below_alloc hB9 o)); (first | (have hbk := blk_atT hb9 (heap_alloc_new w7 (.cells #[.int .i64 0, .int .i64 0] 68))) | skip); try (have hs0 := blk2_s0 hbk (.int .i64 yw); have t0 := blk2_c0 hbk; have t1 := blk_fr (i := 0) hbk; have t2 := blk2_c1 hs0; have t3 := blk_fr (i := 1) hs0; have hs1 := blk2_s1 hs0 (.int .i64 0); have HP := Aside0.mk (And.intro (below_set (below_set hB9 (g := w7.heap.size) (j := 0) (v := .int .i64 yw) (Nat.le_refl _)) (g := w7.heap.size) (j := 1) (v := .int .i64 0) (Nat.le_refl _)) (And.intro hs1 (Nat.le_refl w7.heap.size))); have HSC := Aside0.mk (HST.out _ HP.out.1); clear hbk hs0 hs1); clear hb9 hB9))
            all_goals
              first
              | (have hgd := HP; clear hgd; (try (go_wp2_with fail)); go_meet; case rel => exact ⟨_, rfl, HP⟩)
              | ((try (go_wp2_with fail)); go_meet; case rel => exact ⟨_, rfl, ⟨below_alloc HB9.out _, heap_alloc_new _ _, HB9.out.size⟩⟩)
          case rest =>
            obtain ⟨g15, rfl, H8⟩ := hcut
            rename World => w8
            have hx14 := blk_atT H8.out.1 H7.out.2.1
            have u0 := blk2_c0 hx14
            have u1 := blk2_c1 hx14
            have u2 := blk2_c0 H8.out.2.1
            have u3 := blk2_c1 H8.out.2.1
            have HX14 := Aside0.mk hx14
            have HBW8 := Aside0.mk (below_then H7.out.1 H7.out.1.size H8.out.1)
            have HXM := Aside0.mk (show x ∈ J from List.mem_of_mem_take (i := k + 1) (by rw [HPG.out]; simp))
            have HSG := Aside0.mk (show SS.take (k + 1) = SS.take k ++ [(F x).1] from by rw [← HSS.out, ← List.map_take, HPG.out, List.map_append, List.map_take]; rfl)
            obtain ⟨zs, hzs⟩ : ∃ zs, wrap64 (xw + yw) = zs := ⟨_, rfl⟩
            have hz0 : wrap64 ((0 : Int) + 0) = 0 := (Go.IntWalk.wrap64_in _ (by omega)).trans (by rfl)
            have HZS := Aside0.mk hzs
            have HWA := Aside0.mk (wrap_add HXI.out.1 HXI.out.2)
            clear hx14 s0 s1 s2 hx q3 q4 q5 HST
            go_upto_region 10 with fail
            have HB9 := Aside0.mk (below_alloc HBW8.out (.cells #[.int .i64 zs, .int .i64 0] 68))
            have HZ9 := Aside0.mk (heap_alloc_new w8 (.cells #[.int .i64 zs, .int .i64 0] 68))
            have HX9 := Aside0.mk (And.intro (blk_atT (below_alloc (Below.refl w8.heap.size w8) (.cells #[.int .i64 zs, .int .i64 0] 68)) HX14.out) (blk_atT (below_alloc (Below.refl w8.heap.size w8) (.cells #[.int .i64 zs, .int .i64 0] 68)) H8.out.2.1))
            have HG9 := Aside0.mk (show wr.heap.size ≤ w8.heap.size from HBW8.out.size)
            clear u0 u1 u2 u3 hzs hz0
            generalize w8.alloc (.cells #[.int .i64 zs, .int .i64 0] 68) = W9 at HB9 HZ9 HX9 ⊢
            generalize w8.heap.size = g16 at HZ9 HG9 ⊢
            have y0 := blk2_c0 HZ9.out
            have y1 := blk2_c1 HZ9.out
            obtain ⟨b1, hb1⟩ : ∃ b, decide (zs.natAbs ≤ 4611686018427387904) = b := ⟨_, rfl⟩
            have HFZ := Aside0.mk (fits4_same zs hb1)
            have H00 := Aside0.mk (fits4_same 0 (b := true) (by decide))
            have HB1 := Aside0.mk hb1
            clear hb1
            cases plus with
            | true =>
              have HFX := Aside0.mk (show F x = (zs, b1) from by
                rw [HFX.out]
                show (wrap64 (xw + yw), fitsN (xw + yw)) = _
                rw [← HWA.out.2, HZS.out, ← HB1.out]
                exact congrArg (Prod.mk zs) (decide_eq_decide.2 (by omega)))
              cases b1 with
              | true =>
                go_upto_region 15 with (first
                  | (go_at_call 41; (with_reducible refine (HFZ.out _).mono ?_); rintro e w' ⟨rfl, rfl⟩)
                  | (go_at_call 41; (with_reducible refine (H00.out _).mono ?_); rintro e w' ⟨rfl, rfl⟩))
                have HO4 := Aside0.mk (HO.out.step HB9.out)
                have s2 := (blk3_c (blk_atT HB9.out HSB.out)).2.2
                go_wp2_with (at_builtin; (refine app_d w1.heap.size (fun k => w1.heap.size < k) rfl (.tmp 95) (.tmp 97) rfl (.slice As k cs) (dW (SS.take k)) ⟨zs, 0⟩ rfl rfl (fun k hk => by have := (Array.getElem?_eq_some_iff.1 HO4.out.blk).1; omega) HO4.out.row (Below.refl _ _) HO4.out.bel.size (by rw [HLK.out]; omega) ?_); intro v1 w12 HV8 HB8 HG8; obtain ⟨A9', c9', rfl⟩ := Kd.R_slice HV8.out; have hbk := HO4.out.at2 HG8.out.1; rw [HG.out] at hbk; have p8 := (blk3_c hbk).2.2; have p9 := blk_fr (i := 2) hbk; have HP8 := Aside0.mk (HO4.out.push HG8.out.1 HV8.out); clear hbk)
                go_roundw
                case measure => simp [intOf]; omega
                case rel =>
                  refine ⟨k + 1, .slice A9' ((dW (SS.take k)).length + 1) c9', by omega, by go_num, ⟨fun t ht => ?_⟩, ⟨?_⟩⟩
                  · rw [HPG.out] at ht
                    rcases List.mem_append.1 ht with ht | ht
                    · exact HPK.out t ht
                    · rw [List.mem_singleton] at ht
                      rw [ht, HFX.out]
                  · have h := HP8.out
                    rw [List.length_append] at h
                    rw [HSG.out, HFX.out]
                    show WOutD w1 (.slice A5 U.length c5) (.slice (some adR) J.length c7) _ (dW (SS.take k ++ [_])) _
                    rw [dW_snoc, ← HG.out]
                    exact h
              | false =>
                go_upto_region 14 with (first
                  | (go_at_call 41; (with_reducible refine (HFZ.out _).mono ?_); rintro e w' ⟨rfl, rfl⟩))
                have HE := Aside0.mk (show (⟨[], [], []⟩ : WRel) = r ∧ (11 : Int) = n from by
                  have h := HRN.out
                  rw [if_pos (by omega), if_neg (fun hall => by have h1 := hall x HXM.out; rw [HFX.out] at h1; exact absurd h1 (by simp))] at h
                  exact Prod.mk.inj h)
                have hz9 := blk_atT HB9.out (blk_atT HO.out.bel H1.out.c)
                have HBE := Aside0.mk (below_then HBW.out HBW.out.size HB9.out)
                obtain ⟨⟨p0, p1⟩, ⟨p2, p3⟩, ⟨p4, p5⟩⟩ := blk3_put hz9 (.slice none 0 0) (.slice none 0 0) (.slice none 0 0)
                obtain ⟨r0, r1, r2⟩ := blk3_c (blk3_three hz9 (.slice none 0 0) (.slice none 0 0) (.slice none 0 0))
                clear hz9
                go_wp2
                refine bodyPost_ret (v := .tuple #[.agg #[.slice none 0 0, .slice none 0 0, .slice none 0 0], .int .i64 11]) (by simp [results, Tryz.results18, go_sem, r0, r1, r2]) rfl ?_
                obtain ⟨e1, e2⟩ := HE.out
                subst e1 e2
                exact ⟨none, 0, none, 0, none, 0, rfl, RelM.rd' (RelM.none_ _ 0), Kd.C_nil _ _, ((HBE.out.setCell (p := ⟨w.heap.size + 1 + 1, 0, none⟩) (by show w.heap.size ≤ w.heap.size + 1 + 1; omega) _).setCell (p := ⟨w.heap.size + 1 + 1, 1, none⟩) (by show w.heap.size ≤ w.heap.size + 1 + 1; omega) _).setCell (p := ⟨w.heap.size + 1 + 1, 2, none⟩) (by show w.heap.size ≤ w.heap.size + 1 + 1; omega) _⟩
            | false =>
              have z0 := blk2_c0 HX9.out.1
              have z1 := blk2_c1 HX9.out.1
              have z2 := blk2_c0 HX9.out.2
              have z3 := blk2_c1 HX9.out.2
              obtain ⟨zp, hzp⟩ : ∃ zp, xw * yw = zp := ⟨_, rfl⟩
              have HFX := Aside0.mk (show F x = (wrap64 zp, fitsN zp) from by rw [HFX.out, ← hzp]; rfl)
              by_cases hft : (xw * yw).natAbs ≤ 4611686018427387904
              · have HTM := Aside0.mk (times4_yes xw yw HXI.out.1 HXI.out.2 hzp hft)
                have HFX := Aside0.mk (show F x = (zp, true) from by
                  rw [HFX.out, fitsN, Go.IntWalk.wrap64_in _ (by omega), decide_eq_true (by rw [← hzp]; exact hft)])
                clear hft hzp
                cases b1
                all_goals
                  go_upto_region 13 with (first
                    | (go_at_call 41; (with_reducible refine (HFZ.out _).mono ?_); rintro e w' ⟨rfl, rfl⟩)
                    | (go_at_call 41; (with_reducible refine (H00.out _).mono ?_); rintro e w' ⟨rfl, rfl⟩)
                    | (go_at_call 42; refine (HTM.out _).mono ?_; rintro e w10 ⟨rfl, hb10⟩; have HB10 := Aside0.mk (below_then HB9.out HB9.out.size hb10); have hT := blk_atT hb10 HZ9.out; have hs0 := blk2_s0 hT (.int .i64 zp); have t0 := blk2_c0 hT; have t1 := blk_fr (i := 0) hT; have t2 := blk2_c1 hs0; have t3 := blk_fr (i := 1) hs0; have hs1 := blk2_s1 hs0 (.int .i64 0); have v0 := blk2_c0 hs1; have v1 := blk2_c1 hs1; have HBT := Aside0.mk (below_set (below_set HB10.out (g := g16) (j := 0) (v := .int .i64 zp) HG9.out) (g := g16) (j := 1) (v := .int .i64 0) HG9.out); clear hT hs0 hs1 hb10 y0 y1 z0 z1 z2 z3))
                  generalize (w10.setCell { block := g16, off := 0 } (Value.int .i64 zp)).setCell { block := g16, off := 1 } (Value.int .i64 0) = W11 at v0 v1 HBT ⊢
                  have HO4 := Aside0.mk (HO.out.step HBT.out)
                  have s2 := (blk3_c (blk_atT HBT.out HSB.out)).2.2
                  go_wp2_with (at_builtin; (refine app_d w1.heap.size (fun k => w1.heap.size < k) rfl (.tmp 95) (.tmp 97) rfl (.slice As k cs) (dW (SS.take k)) ⟨zp, 0⟩ rfl rfl (fun k hk => by have := (Array.getElem?_eq_some_iff.1 HO4.out.blk).1; omega) HO4.out.row (Below.refl _ _) HO4.out.bel.size (by rw [HLK.out]; omega) ?_); intro v1 w12 HV8 HB8 HG8; obtain ⟨A9', c9', rfl⟩ := Kd.R_slice HV8.out; have hbk := HO4.out.at2 HG8.out.1; rw [HG.out] at hbk; have p8 := (blk3_c hbk).2.2; have p9 := blk_fr (i := 2) hbk; have HP8 := Aside0.mk (HO4.out.push HG8.out.1 HV8.out); clear hbk)
                  go_roundw
                  case measure => simp [intOf]; omega
                  case rel =>
                    refine ⟨k + 1, .slice A9' ((dW (SS.take k)).length + 1) c9', by omega, by go_num, ⟨fun t ht => ?_⟩, ⟨?_⟩⟩
                    · rw [HPG.out] at ht
                      rcases List.mem_append.1 ht with ht | ht
                      · exact HPK.out t ht
                      · rw [List.mem_singleton] at ht
                        rw [ht, HFX.out]
                    · have h := HP8.out
                      rw [List.length_append] at h
                      rw [HSG.out, HFX.out]
                      show WOutD w1 (.slice A5 U.length c5) (.slice (some adR) J.length c7) _ (dW (SS.take k ++ [_])) _
                      rw [dW_snoc, ← HG.out]
                      exact h
              · have HTM := Aside0.mk (times4_no xw yw HXI.out.1 HXI.out.2 hft)
                have HFX := Aside0.mk (show F x = (wrap64 zp, false) from by
                  rw [HFX.out, fitsN, decide_eq_false (by rw [← hzp]; exact hft)])
                clear hft hzp
                cases b1
                all_goals
                  go_upto_region 13 with (first
                    | (go_at_call 41; (with_reducible refine (HFZ.out _).mono ?_); rintro e w' ⟨rfl, rfl⟩)
                    | (go_at_call 41; (with_reducible refine (H00.out _).mono ?_); rintro e w' ⟨rfl, rfl⟩)
                    | (go_at_call 42; refine (HTM.out _).mono ?_; rintro e w10 ⟨rfl, hb10⟩; have HB10 := Aside0.mk (below_then HB9.out HB9.out.size hb10); have hT := blk_atT hb10 HZ9.out; have hs0 := blk2_s0 hT (.int .i64 0); have t0 := blk2_c0 hT; have t1 := blk_fr (i := 0) hT; have t2 := blk2_c1 hs0; have t3 := blk_fr (i := 1) hs0; have hs1 := blk2_s1 hs0 (.int .i64 0); have v0 := blk2_c0 hs1; have v1 := blk2_c1 hs1; have HBT := Aside0.mk (below_set (below_set HB10.out (g := g16) (j := 0) (v := .int .i64 0) HG9.out) (g := g16) (j := 1) (v := .int .i64 0) HG9.out); clear hT hs0 hs1 hb10 y0 y1 z0 z1 z2 z3))
                  generalize (w10.setCell { block := g16, off := 0 } (Value.int .i64 0)).setCell { block := g16, off := 1 } (Value.int .i64 0) = W11 at v0 v1 HBT ⊢
                  have HE := Aside0.mk (show (⟨[], [], []⟩ : WRel) = r ∧ (11 : Int) = n from by
                    have h := HRN.out
                    rw [if_pos (by omega), if_neg (fun hall => by have h1 := hall x HXM.out; rw [HFX.out] at h1; exact absurd h1 (by simp))] at h
                    exact Prod.mk.inj h)
                  have hz9 := blk_atT HBT.out (blk_atT HO.out.bel H1.out.c)
                  have HBE := Aside0.mk (below_then HBW.out HBW.out.size HBT.out)
                  obtain ⟨⟨p0, p1⟩, ⟨p2, p3⟩, ⟨p4, p5⟩⟩ := blk3_put hz9 (.slice none 0 0) (.slice none 0 0) (.slice none 0 0)
                  obtain ⟨r0, r1, r2⟩ := blk3_c (blk3_three hz9 (.slice none 0 0) (.slice none 0 0) (.slice none 0 0))
                  clear hz9
                  go_wp2
                  refine bodyPost_ret (v := .tuple #[.agg #[.slice none 0 0, .slice none 0 0, .slice none 0 0], .int .i64 11]) (by simp [results, Tryz.results18, go_sem, r0, r1, r2]) rfl ?_
                  obtain ⟨e1, e2⟩ := HE.out
                  subst e1 e2
                  exact ⟨none, 0, none, 0, none, 0, rfl, RelM.rd' (RelM.none_ _ 0), Kd.C_nil _ _, ((HBE.out.setCell (p := ⟨w.heap.size + 1 + 1, 0, none⟩) (by show w.heap.size ≤ w.heap.size + 1 + 1; omega) _).setCell (p := ⟨w.heap.size + 1 + 1, 1, none⟩) (by show w.heap.size ≤ w.heap.size + 1 + 1; omega) _).setCell (p := ⟨w.heap.size + 1 + 1, 2, none⟩) (by show w.heap.size ≤ w.heap.size + 1 + 1; omega) _⟩
      · have hke : k = J.length := by omega
        subst hke
        have HPE := Aside0.mk (show J.take J.length = J from List.take_length)
        have HSE2 := Aside0.mk (show SS.take J.length = SS from List.take_of_length_le (by rw [HSSL.out]; exact Nat.le_refl _))
        rw [HPE.out] at HPK
        rw [HSE2.out] at HO HLK
        have HE := Aside0.mk (show (⟨U, J, SS⟩ : WRel) = r ∧ (0 : Int) = n from by have h := HRN.out; rw [if_pos (by omega), if_pos HPK.out] at h; exact Prod.mk.inj h)
        have hB9 := HO.out.bel
        have hz9 := blk_atT hB9 H1.out.c
        have HB9 := Aside0.mk (below_then H1.out.bel H1.out.bel.size hB9)
        obtain ⟨⟨p0, p1⟩, ⟨p2, p3⟩, ⟨p4, p5⟩⟩ := blk3_put hz9 (.slice A5 U.length c5) (.slice A7 J.length c7) (.slice As J.length cs)
        obtain ⟨r0, r1, r2⟩ := blk3_c (blk3_three hz9 (.slice A5 U.length c5) (.slice A7 J.length c7) (.slice As J.length cs))
        have HLT := Aside0.mk (show w.heap.size + 1 + 1 < W0.heap.size from (Array.getElem?_eq_some_iff.1 H0.out.c).1)
        have HSW := Aside0.mk HM1.out.2.size
        clear hB9 hz9
        go_wp2
        refine bodyPost_ret (v := .tuple #[.agg #[.slice A5 U.length c5, .slice A7 J.length c7, .slice As J.length cs], .int .i64 0]) (by simp [results, Tryz.results18, go_sem, r0, r1, r2]) rfl ?_
        have hlo := HLT.out
        have h3 := HSW.out
        have hM5 := (((HM1.out.1.below HO.out.bel).far (p := ⟨w.heap.size + 1 + 1, 0, none⟩) hlo (.slice A5 U.length c5)).far (p := ⟨w.heap.size + 1 + 1, 1, none⟩) hlo (.slice A7 J.length c7)).far (p := ⟨w.heap.size + 1 + 1, 2, none⟩) hlo (.slice As J.length cs)
        have hrow : ∀ {V : World} (q : Nat) (u v : Value), Kd.R KWt 68 V w1.heap.size (fun k => w1.heap.size < k) v (dW SS) → Kd.R KWt 68 (V.setCell ⟨w.heap.size + 1 + 1, q, none⟩ u) w1.heap.size (fun k => w1.heap.size < k) v (dW SS) := fun q u v h => Kd.R_far h (p := ⟨w.heap.size + 1 + 1, q, none⟩) (fun k hk => by show k ≠ w.heap.size + 1 + 1; omega) u
        have hR5 := hrow 2 (.slice As J.length cs) _ (hrow 1 (.slice A7 J.length c7) _ (hrow 0 (.slice A5 U.length c5) _ HO.out.row))
        have hC5 := (Kd.R_reads' hR5).2.2
        rw [HLK.out] at hC5
        obtain ⟨e1, e2⟩ := HE.out
        subst e1 e2
        exact ⟨A5, c5, A7, c7, As, cs, rfl, RelM.rd' hM5, hC5, ((HB9.out.setCell (p := ⟨w.heap.size + 1 + 1, 0, none⟩) (by show w.heap.size ≤ w.heap.size + 1 + 1; omega) _).setCell (p := ⟨w.heap.size + 1 + 1, 1, none⟩) (by show w.heap.size ≤ w.heap.size + 1 + 1; omega) _).setCell (p := ⟨w.heap.size + 1 + 1, 2, none⟩) (by show w.heap.size ≤ w.heap.size + 1 + 1; omega) _⟩
end Go.Proofs.YtlmkgghpaaadhaaGreatDoor.G

/- WeighTimes: the contracts that its walk calls, with lengths as variables. -/
set_option linter.unusedVariables false
set_option linter.unusedSimpArgs false
namespace Go.Proofs.YtlmkgghpaaadhaaGreatDoor.G
open Go.RowKit Go.Proofs.YtlmkgghpaaadhaaGreatDoorW.PrintWords Go.Proofs.YtlmkgghpaaadhaaGreatDoorW.PrintLast Go.Proofs.YtlmkgghpaaadhaaGreatDoorW.PrintMore Go.Proofs.YtlmkgghpaaadhaaGreatDoor.PRefs

/-- What two relations that weigh give: sizes. -/
theorem joinedTo_fits {f : WF} {sa sb : List Int} {La Lb : List (List Int)} {wa wb : List Int} {rows : Int} (hr : RightP sa La) (hr' : RightP sb Lb) {U : List Int} {J : List (List Int)} {S : List Int} {n : Int} (h : joinedTo f ⟨sa, La, wa⟩ ⟨sb, Lb, wb⟩ rows = (⟨U, J, S⟩, n)) :
    S.length = J.length ∧ U.length ≤ sa.length + sb.length ∧ J.length ≤ La.length * Lb.length ∧ ∀ x ∈ J, x.length = U.length := by
  have hJ : (joinRows sa La sb Lb).length ≤ La.length * Lb.length := by
    unfold joinRows
    refine Nat.le_trans (Pl.sortU_length_le _) ?_
    have hk : ∀ l : List (List Int), (l.flatMap (w1o sa sb Lb)).length ≤ l.length * Lb.length := fun l => by
      induction l with
      | nil => simp
      | cons t l ih => rw [List.flatMap_cons, List.length_append, List.length_cons, Nat.succ_mul]; have := w1o_len sa sb Lb t; omega
    exact hk La
  unfold joinedTo at h
  simp only at h
  split at h
  · split at h
    · obtain ⟨h1, rfl⟩ := Prod.mk.inj h
      injection h1 with h1 h2 h3
      subst h1 h2 h3
      exact ⟨by simp, uni_len _ _, hJ, fun t ht => ((mem_join hr hr' t).1 ht).1⟩
    · obtain ⟨h1, rfl⟩ := Prod.mk.inj h
      injection h1 with h1 h2 h3
      subst h1 h2 h3
      simp
  · obtain ⟨h1, rfl⟩ := Prod.mk.inj h
    injection h1 with h1 h2 h3
    subst h1 h2 h3
    simp
section
variable {w : World} {A : Option Addr} {c : Nat} {sa : List Int} {A' : Option Addr} {c' : Nat} {La : List (List Int)} {Aw : Option Addr} {cw : Nat} {wa : List Int} {n n' m : Nat} {B : Option Addr} {d : Nat} {sb : List Int} {B' : Option Addr} {d' : Nat} {Lb : List (List Int)} {Bw : Option Addr} {dw : Nat} {wb : List Int} {k k' l : Nat}
theorem ptimes_is (h : WRd w A c sa A' c' La Aw cw wa) (ha1 : sa.length = n) (ha2 : La.length = n') (ha3 : wa.length = m) (h' : WRd w B d sb B' d' Lb Bw dw wb) (hb1 : sb.length = k) (hb2 : Lb.length = k') (hb3 : wb.length = l) (ht : Rt sa La) (hw : InW wa) (ht' : Rt sb Lb) (hw' : InW wb) (hm : sa.length ≤ 1000000) (hm' : sb.length ≤ 1000000) (rows : Int) (htab : Tab w) {U : List Int} {J : List (List Int)} {S : List Int} {e : Int} (hP : joinedTo fTimes ⟨sa, La, wa⟩ ⟨sb, Lb, wb⟩ rows = (⟨U, J, S⟩, e)) {p p' q : Nat} (h1 : U.length = p) (h2 : J.length = p') (h3 : S.length = q) :
    Calls Tryz.prog 15 #[.agg #[.slice A n c, .slice A' n' c', .slice Aw m cw], .agg #[.slice B k d, .slice B' k' d', .slice Bw l dw], .int .i64 rows] w fun z w' => ∃ A c A' c' Aw cw, z = .returned (.tuple #[.agg #[.slice A p c, .slice A' p' c', .slice Aw q cw], .int .i64 e]) ∧ WMk w' w.heap.size A c A' c' Aw cw ⟨U, J, S⟩ ∧ Below w.heap.size w w' := by
  subst ha1 ha2 ha3 hb1 hb2 hb3 h1 h2 h3
  refine (times_any (a := ⟨sa, La, wa⟩) (b := ⟨sb, Lb, wb⟩) h ht hw h' ht' hw' hm hm' rows htab hP).mono ?_
  rintro z w' ⟨A, c, A', c', Aw, cw, rfl, hM, hb⟩
  exact ⟨A, c, A', c', Aw, cw, rfl, hM, hb⟩
theorem pplus_is (h : WRd w A c sa A' c' La Aw cw wa) (ha1 : sa.length = n) (ha2 : La.length = n') (ha3 : wa.length = m) (h' : WRd w B d sb B' d' Lb Bw dw wb) (hb1 : sb.length = k) (hb2 : Lb.length = k') (hb3 : wb.length = l) (ht : Rt sa La) (hw : InW wa) (ht' : Rt sb Lb) (hw' : InW wb) (hm : sa.length ≤ 1000000) (hm' : sb.length ≤ 1000000) (rows : Int) (htab : Tab w) {U : List Int} {J : List (List Int)} {S : List Int} {e : Int} (hP : joinedTo fPlus ⟨sa, La, wa⟩ ⟨sb, Lb, wb⟩ rows = (⟨U, J, S⟩, e)) {p p' q : Nat} (h1 : U.length = p) (h2 : J.length = p') (h3 : S.length = q) :
    Calls Tryz.prog 17 #[.agg #[.slice A n c, .slice A' n' c', .slice Aw m cw], .agg #[.slice B k d, .slice B' k' d', .slice Bw l dw], .int .i64 rows] w fun z w' => ∃ A c A' c' Aw cw, z = .returned (.tuple #[.agg #[.slice A p c, .slice A' p' c', .slice Aw q cw], .int .i64 e]) ∧ WMk w' w.heap.size A c A' c' Aw cw ⟨U, J, S⟩ ∧ Below w.heap.size w w' := by
  subst ha1 ha2 ha3 hb1 hb2 hb3 h1 h2 h3
  refine (plus_any (a := ⟨sa, La, wa⟩) (b := ⟨sb, Lb, wb⟩) h ht hw h' ht' hw' hm hm' rows htab hP).mono ?_
  rintro z w' ⟨A, c, A', c', Aw, cw, rfl, hM, hb⟩
  exact ⟨A, c, A', c', Aw, cw, rfl, hM, hb⟩
theorem dtimes_is {A4 B4 : Option Addr} {c4 d4 : Nat} (h : RelRd w A c sa A' c' La) (hD : Kd.C KWt w A4 n' (dW wa)) (ha1 : sa.length = n) (ha2 : La.length = n') (hw : wa.length = La.length) (hr : RightP sa La) (hin : InW wa)
    (h' : RelRd w B d sb B' d' Lb) (hD' : Kd.C KWt w B4 k' (dW wb)) (hb1 : sb.length = k) (hb2 : Lb.length = k') (hw' : wb.length = Lb.length) (hr' : RightP sb Lb) (hin' : InW wb) (hm : sa.length ≤ 1000) (hm' : sb.length ≤ 1000) (hm1 : La.length ≤ 1000) (hm1' : Lb.length ≤ 1000)
    (rows : Int) (plus : Bool) {U : List Int} {J : List (List Int)} {S : List Int} {e : Int} (hP : joinedTo (fDoc plus) ⟨sa, La, wa⟩ ⟨sb, Lb, wb⟩ rows = (⟨U, J, S⟩, e)) (hmj : (joinRows sa La sb Lb).length ≤ 1000000) {p p' : Nat} (h1 : U.length = p) (h2 : J.length = p') :
    Calls Tryz.prog 18 #[.agg #[.slice A n c, .slice A' n' c', .slice A4 n' c4], .agg #[.slice B k d, .slice B' k' d', .slice B4 k' d4], .int .i64 rows, .int .i64 4611686018427387904, .bool plus] w fun z w' => ∃ A c A' c' A4 c4, z = .returned (.tuple #[.agg #[.slice A p c, .slice A' p' c', .slice A4 p' c4], .int .i64 e]) ∧ RelRd w' A c U A' c' J ∧ Kd.C KWt w' A4 p' (dW S) ∧ Below w.heap.size w w' := by
  subst ha1 ha2 hb1 hb2 h1 h2
  exact times4_any h hD hw hr hin h' hD' hw' hr' hin' (by omega) (by omega) (by omega) (by omega) hmj rows plus hP
end
end Go.Proofs.YtlmkgghpaaadhaaGreatDoor.G
