/- Several texts of this claim in one. -/
import Derived.Test.YtlmkgghpaaadhaaGreatDoorMA
import Derived.Test.YtlmkgghpaaadhaaGreatDoorShelf
import Derived.Laws.CopyOwn
import Derived.Deep.RegionHeld3
import Derived.IntWalk
import Derived.Test.YtlmkgghpaaadhaaGreatDoorMU
import Derived.Deep.DeepCutAuto
/- slices.Repeat of one weight. -/
set_option linter.unusedVariables false
set_option linter.unusedSimpArgs false
namespace Go.Proofs.YtlmkgghpaaadhaaGreatDoor.G
open Go.RowKit Go.Proofs.YtlmkgghpaaadhaaGreatDoorW.PrintWords Go.Proofs.YtlmkgghpaaadhaaGreatDoorW.PrintLast Go.Proofs.YtlmkgghpaaadhaaGreatDoorW.PrintMore
/-- k weights, and what was there. -/
def reps (n k : Nat) (y z : Value) : List Value := List.replicate k y ++ List.replicate (n - k) z
theorem reps_len {n k : Nat} (h : k ≤ n) (y z : Value) : (reps n k y z).length = n := by simp [reps]; omega
theorem reps_get {n k j : Nat} (y z : Value) (h : j < k) : (reps n k y z)[j]? = some y := by
  unfold reps
  rw [List.getElem?_append_left (by simpa using h), List.getElem?_replicate_of_lt h]
theorem reps_splice {n k m : Nat} (h : k + m ≤ n) (y z : Value) : splice (reps n k y z) k (List.replicate m y) = reps n (k + m) y z := by
  unfold splice reps
  rw [List.take_left' (by simp), List.length_replicate, List.drop_append]
  simp only [List.length_replicate, List.drop_replicate]
  rw [show k - (k + m) = 0 by omega, show k + m - k = m by omega, show n - k - m = n - (k + m) by omega, List.replicate_zero, List.nil_append, ← List.append_assoc, List.replicate_append_replicate]

theorem repeat_int_info : (Tryz.prog.info? 2).map (fun i => (i.zero, i.size, i.bytes)) = some (some (.int .i64 0), 1, 8) := by kernel_rfl
theorem repeat_int_size : (Tryz.prog.info? 2).map (fun i => i.size) = some 1 := by kernel_rfl
set_option maxHeartbeats 4000000 in
set_option maxRecDepth 100000 in
theorem repeat_int (y : Value) (h1 : y.oneCell' = true) (n : Nat) (hn : n ≤ 1000000000) (a : Addr) (w : World) (ha : w.cell? a = some y) :
    Calls Tryz.prog 54 #[.slice (some a) 1 1, .int .i64 n] w fun e w' => e = .returned (.slice (some ⟨w.heap.size, 0, none⟩) n n) ∧ w'.heap[w.heap.size]? = some (.cells (List.replicate n y).toArray 2 (0, 0)) ∧ Below w.heap.size w w' := by
  have HA := Aside0.mk (And.intro ha (World.block_lt_of_cell? w _ ha))
  have H1 := Aside0.mk h1
  have hmk := fun W => run_make_row' (P := Tryz.prog) 24 2 (.int .i64 0) 8 Tryz.underlying24 repeat_int_info rfl .i64 .i64 n (by omega) (by omega) W
  have HM := Aside0.mk (fun (W : World) => (show Calls Tryz.prog 81 #[.int .u64 1, .int .u64 n] W fun e w' => e = .returned (.tuple #[.int .u64 0, .int .u64 n]) ∧ W = w' from by
    have h := (Tryz.bits_Mul 1 n (by omega) (by omega) W).mono (fun e w' h => (show e = _ ∧ W = w' from ⟨h.1, h.2.symm⟩))
    rw [Nat.one_mul, show n / 18446744073709551616 = 0 by omega, show n % 18446744073709551616 = n by omega] at h
    exact h))
  clear ha h1
  go_enter Tryz.func54, Tryz.ntmps54
  have hnn : (0 : Int) ≤ (n : Int) := by omega
  have hn9 : (n : Int) ≤ 1000000000 := by omega
  have hk0 := heap_alloc_new w (.cells (madeCells #[.int .i64 0] n) 2)
  have hmc : madeCells #[.int .i64 0] n = (reps n 0 y (.int .i64 0)).toArray := by
    refine Array.ext (by simp [madeCells, reps]) (fun i h1 h2 => ?_)
    simp [madeCells, reps, Nat.mod_one]
  have HK0 := Aside0.mk (show (w.alloc (.cells (madeCells #[.int .i64 0] n) 2)).heap[w.heap.size]? = some (.cells (reps n 0 y (.int .i64 0)).toArray 2 (0, 0)) from by rw [← hmc]; exact hk0)
  have HB0 := Aside0.mk (below_alloc (Below.refl w.heap.size w) (.cells (madeCells #[.int .i64 0] n) 2))
  obtain ⟨m0, hm0⟩ : ∃ m, Nat.min 1 n = m := ⟨_, rfl⟩
  have hm1 : m0 ≤ n ∧ (n = 0 ∨ 1 ≤ m0) ∧ m0 ≤ 1 := by rw [← hm0]; show min 1 n ≤ n ∧ (n = 0 ∨ 1 ≤ min 1 n) ∧ min 1 n ≤ 1; omega
  have HM0 := Aside0.mk hm0
  clear hk0 hmc hm0
  go_wp2_with (first
    | (go_at_call 81; refine (HM.out _).mono ?_; rintro e w' ⟨rfl, rfl⟩)
    | (refine wpList_copy_splice rfl (.tmp 31) (.tmp 32) 24 24 rfl 2 Tryz.underlying24 repeat_int_size (some ⟨w.heap.size, 0, none⟩) (some a) n n 1 1 rfl rfl w.heap.size 0 (reps n 0 y (.int .i64 0)) 2 HK0.out (List.replicate m0 y) (by rw [List.length_replicate, ← HM0.out]) (fun _ => ⟨rfl, a, rfl, fun j v hv => by
        have hj : j < m0 := by have h := (List.getElem?_eq_some_iff.1 hv).1; simpa using h
        rw [List.getElem?_replicate_of_lt hj] at hv
        obtain rfl := Option.some.inj hv
        obtain rfl : j = 0 := by omega
        exact (HB0.out.cell HA.out.2).trans HA.out.1⟩) (by rw [List.length_replicate, reps_len (Nat.zero_le _)]; omega) (fun v hv => by rw [List.eq_of_mem_replicate hv]; exact H1.out) w.heap.size w HB0.out (Nat.le_refl _) ?_; intro w3 hk3 hb3; have HK3 := Aside0.mk (show w3.heap[w.heap.size]? = some (.cells (reps n m0 y (.int .i64 0)).toArray 2 (0, 0)) from by have h := hk3; unfold Hid at h; rw [show (0 : Nat) = 0 from rfl, reps_splice (by omega), Nat.zero_add] at h; exact h); have HB3 := Aside0.mk hb3; clear hk3 hb3))
  clear HK0 HB0 HM hmk
  go_loopw [8] (fun i W => ∃ k : Nat, k ≤ n ∧ (n = 0 ∨ 1 ≤ k) ∧ i = .int .i64 k ∧ Aside0 (W.heap[w.heap.size]? = some (.cells (reps n k y (.int .i64 0)).toArray 2 (0, 0))) ∧ Aside0 (Below w.heap.size w W)) (fun i _ => n - (intOf i).toNat)
  case atStart => exact ⟨m0, hm1.1, hm1.2.1, by simp [goInt], HK3, HB3⟩
  case round =>
    clear HK3 HB3
    obtain ⟨k, hk, hk1, rfl, HK, HB⟩ := hrel
    by_cases hlt : k < n
    · have hkn : (k : Int) < (n : Int) := by omega
      have hkl : (k : Int) ≤ (n : Int) := by omega
      have hk0 : (0 : Int) ≤ (k : Int) := by omega
      obtain ⟨i0, hi, _, hz1, _⟩ := info_parts repeat_int_info
      have hs1 := cut_from (P := Tryz.prog) 24 2 .i64 Tryz.underlying24 hi 1 hz1 (some ⟨w.heap.size, 0, none⟩) n n (k : Int) hk0 hkl
      have hs2 := cut_to (P := Tryz.prog) 24 2 .i64 Tryz.underlying24 hi (some ⟨w.heap.size, 0, none⟩) n n (k : Int) hk0 hkl (Nat.le_refl _)
      rw [Int.toNat_natCast] at hs1 hs2
      rw [if_neg (by omega), show Option.map (fun x : Addr => x.add (k * 1)) (some ⟨w.heap.size, 0, none⟩) = some ⟨w.heap.size, k, none⟩ from by simp [Addr.add]; omega] at hs1
      obtain ⟨m, hm⟩ : ∃ m, Nat.min k (n - k) = m := ⟨_, rfl⟩
      have hml : 1 ≤ m ∧ k + m ≤ n := by rw [← hm]; show 1 ≤ min k (n - k) ∧ k + min k (n - k) ≤ n; omega
      have HMM := Aside0.mk hm
      have hwr : IntKind.i64.wrap ((k : Int) + (m : Int)) = (k : Int) + (m : Int) := IntWalk.i64_in _ (by omega)
      clear hm
      go_wp2_with fail
      go_region_held3 (fun W => True) (exact trivial) ((refine step_copy_splice rfl (.tmp 41) (.tmp 44) 24 24 (by rfl) 2 Tryz.underlying24 repeat_int_size (some ⟨w.heap.size, k, none⟩) (some ⟨w.heap.size, 0, none⟩) (n - k) (n - k) k n (by rfl) (by rfl) w.heap.size k (reps n k y (.int .i64 0)) 2 HK.out (List.replicate m y) (by rw [List.length_replicate, ← HMM.out]) (fun _ => ⟨rfl, _, rfl, fun j v hv => by
          have hj : j < m := by have h := (List.getElem?_eq_some_iff.1 hv).1; simpa using h
          rw [List.getElem?_replicate_of_lt hj] at hv
          obtain rfl := Option.some.inj hv
          have hjk : j < k := by have h := HMM.out; have h2 : min k (n - k) ≤ k := Nat.min_le_left _ _; have h3 : min k (n - k) = m := h; omega
          have hcc := cell_of_row wr w.heap.size j _ _ _ HK.out
          rw [show (Addr.add ⟨w.heap.size, 0, none⟩ j) = ⟨w.heap.size, j, none⟩ from by simp [Addr.add]; omega]
          exact hcc.trans (by rw [List.getElem?_toArray]; exact reps_get _ _ hjk)⟩) (by rw [List.length_replicate, reps_len hk]; omega) (fun v hv => by rw [List.eq_of_mem_replicate hv]; exact H1.out) w.heap.size w (below_drew HB.out) (Nat.le_refl _) ?_; intro w3 hk3 hb3; have HK3 := Aside0.mk (show w3.heap[w.heap.size]? = some (.cells (reps n (k + m) y (.int .i64 0)).toArray 2 (0, 0)) from by have h := hk3; unfold Hid at h; rw [reps_splice hml.2] at h; exact h); have HB3 := Aside0.mk hb3; clear hk3 hb3))
      go_wp2
      go_roundw
      case rel => exact ⟨k + m, by omega, .inr (by omega), by go_num, HK3, HB3⟩
      case measure => simp [intOf]; omega
    · have hke : k = n := by omega
      subst hke
      go_wp2
      go_ret
      refine ⟨rfl, ?_, HB.out⟩
      have h := HK.out
      unfold reps at h
      rw [Nat.sub_self, List.replicate_zero, List.append_nil] at h
      exact h

theorem repeat_cx_info : (Tryz.prog.info? 51).map (fun i => (i.zero, i.size, i.bytes)) = some (some (.complex .f64 0 0), 1, 16) := by kernel_rfl
theorem repeat_cx_size : (Tryz.prog.info? 51).map (fun i => i.size) = some 1 := by kernel_rfl
set_option maxHeartbeats 4000000 in
set_option maxRecDepth 100000 in
theorem repeat_cx (y : Value) (h1 : y.oneCell' = true) (n : Nat) (hn : n ≤ 1000000000) (a : Addr) (w : World) (ha : w.cell? a = some y) :
    Calls Tryz.prog 63 #[.slice (some a) 1 1, .int .i64 n] w fun e w' => e = .returned (.slice (some ⟨w.heap.size, 0, none⟩) n n) ∧ w'.heap[w.heap.size]? = some (.cells (List.replicate n y).toArray 51 (0, 0)) ∧ Below w.heap.size w w' := by
  have HA := Aside0.mk (And.intro ha (World.block_lt_of_cell? w _ ha))
  have H1 := Aside0.mk h1
  have hmk := fun W => run_make_row' (P := Tryz.prog) 46 51 (.complex .f64 0 0) 16 Tryz.underlying46 repeat_cx_info rfl .i64 .i64 n (by omega) (by omega) W
  have HM := Aside0.mk (fun (W : World) => (show Calls Tryz.prog 81 #[.int .u64 1, .int .u64 n] W fun e w' => e = .returned (.tuple #[.int .u64 0, .int .u64 n]) ∧ W = w' from by
    have h := (Tryz.bits_Mul 1 n (by omega) (by omega) W).mono (fun e w' h => (show e = _ ∧ W = w' from ⟨h.1, h.2.symm⟩))
    rw [Nat.one_mul, show n / 18446744073709551616 = 0 by omega, show n % 18446744073709551616 = n by omega] at h
    exact h))
  clear ha h1
  go_enter Tryz.func63, Tryz.ntmps63
  have hnn : (0 : Int) ≤ (n : Int) := by omega
  have hn9 : (n : Int) ≤ 1000000000 := by omega
  have hk0 := heap_alloc_new w (.cells (madeCells #[.complex .f64 0 0] n) 51)
  have hmc : madeCells #[.complex .f64 0 0] n = (reps n 0 y (.complex .f64 0 0)).toArray := by
    refine Array.ext (by simp [madeCells, reps]) (fun i h1 h2 => ?_)
    simp [madeCells, reps, Nat.mod_one]
  have HK0 := Aside0.mk (show (w.alloc (.cells (madeCells #[.complex .f64 0 0] n) 51)).heap[w.heap.size]? = some (.cells (reps n 0 y (.complex .f64 0 0)).toArray 51 (0, 0)) from by rw [← hmc]; exact hk0)
  have HB0 := Aside0.mk (below_alloc (Below.refl w.heap.size w) (.cells (madeCells #[.complex .f64 0 0] n) 51))
  obtain ⟨m0, hm0⟩ : ∃ m, Nat.min 1 n = m := ⟨_, rfl⟩
  have hm1 : m0 ≤ n ∧ (n = 0 ∨ 1 ≤ m0) ∧ m0 ≤ 1 := by rw [← hm0]; show min 1 n ≤ n ∧ (n = 0 ∨ 1 ≤ min 1 n) ∧ min 1 n ≤ 1; omega
  have HM0 := Aside0.mk hm0
  clear hk0 hmc hm0
  go_wp2_with (first
    | (go_at_call 81; refine (HM.out _).mono ?_; rintro e w' ⟨rfl, rfl⟩)
    | (refine wpList_copy_splice rfl (.tmp 31) (.tmp 32) 46 46 rfl 51 Tryz.underlying46 repeat_cx_size (some ⟨w.heap.size, 0, none⟩) (some a) n n 1 1 rfl rfl w.heap.size 0 (reps n 0 y (.complex .f64 0 0)) 51 HK0.out (List.replicate m0 y) (by rw [List.length_replicate, ← HM0.out]) (fun _ => ⟨rfl, a, rfl, fun j v hv => by
        have hj : j < m0 := by have h := (List.getElem?_eq_some_iff.1 hv).1; simpa using h
        rw [List.getElem?_replicate_of_lt hj] at hv
        obtain rfl := Option.some.inj hv
        obtain rfl : j = 0 := by omega
        exact (HB0.out.cell HA.out.2).trans HA.out.1⟩) (by rw [List.length_replicate, reps_len (Nat.zero_le _)]; omega) (fun v hv => by rw [List.eq_of_mem_replicate hv]; exact H1.out) w.heap.size w HB0.out (Nat.le_refl _) ?_; intro w3 hk3 hb3; have HK3 := Aside0.mk (show w3.heap[w.heap.size]? = some (.cells (reps n m0 y (.complex .f64 0 0)).toArray 51 (0, 0)) from by have h := hk3; unfold Hid at h; rw [show (0 : Nat) = 0 from rfl, reps_splice (by omega), Nat.zero_add] at h; exact h); have HB3 := Aside0.mk hb3; clear hk3 hb3))
  clear HK0 HB0 HM hmk
  go_loopw [8] (fun i W => ∃ k : Nat, k ≤ n ∧ (n = 0 ∨ 1 ≤ k) ∧ i = .int .i64 k ∧ Aside0 (W.heap[w.heap.size]? = some (.cells (reps n k y (.complex .f64 0 0)).toArray 51 (0, 0))) ∧ Aside0 (Below w.heap.size w W)) (fun i _ => n - (intOf i).toNat)
  case atStart => exact ⟨m0, hm1.1, hm1.2.1, by simp [goInt], HK3, HB3⟩
  case round =>
    clear HK3 HB3
    obtain ⟨k, hk, hk1, rfl, HK, HB⟩ := hrel
    by_cases hlt : k < n
    · have hkn : (k : Int) < (n : Int) := by omega
      have hkl : (k : Int) ≤ (n : Int) := by omega
      have hk0 : (0 : Int) ≤ (k : Int) := by omega
      obtain ⟨i0, hi, _, hz1, _⟩ := info_parts repeat_cx_info
      have hs1 := cut_from (P := Tryz.prog) 46 51 .i64 Tryz.underlying46 hi 1 hz1 (some ⟨w.heap.size, 0, none⟩) n n (k : Int) hk0 hkl
      have hs2 := cut_to (P := Tryz.prog) 46 51 .i64 Tryz.underlying46 hi (some ⟨w.heap.size, 0, none⟩) n n (k : Int) hk0 hkl (Nat.le_refl _)
      rw [Int.toNat_natCast] at hs1 hs2
      rw [if_neg (by omega), show Option.map (fun x : Addr => x.add (k * 1)) (some ⟨w.heap.size, 0, none⟩) = some ⟨w.heap.size, k, none⟩ from by simp [Addr.add]; omega] at hs1
      obtain ⟨m, hm⟩ : ∃ m, Nat.min k (n - k) = m := ⟨_, rfl⟩
      have hml : 1 ≤ m ∧ k + m ≤ n := by rw [← hm]; show 1 ≤ min k (n - k) ∧ k + min k (n - k) ≤ n; omega
      have HMM := Aside0.mk hm
      have hwr : IntKind.i64.wrap ((k : Int) + (m : Int)) = (k : Int) + (m : Int) := IntWalk.i64_in _ (by omega)
      clear hm
      go_wp2_with fail
      go_region_held3 (fun W => True) (exact trivial) ((refine step_copy_splice rfl (.tmp 41) (.tmp 44) 46 46 (by rfl) 51 Tryz.underlying46 repeat_cx_size (some ⟨w.heap.size, k, none⟩) (some ⟨w.heap.size, 0, none⟩) (n - k) (n - k) k n (by rfl) (by rfl) w.heap.size k (reps n k y (.complex .f64 0 0)) 51 HK.out (List.replicate m y) (by rw [List.length_replicate, ← HMM.out]) (fun _ => ⟨rfl, _, rfl, fun j v hv => by
          have hj : j < m := by have h := (List.getElem?_eq_some_iff.1 hv).1; simpa using h
          rw [List.getElem?_replicate_of_lt hj] at hv
          obtain rfl := Option.some.inj hv
          have hjk : j < k := by have h := HMM.out; have h2 : min k (n - k) ≤ k := Nat.min_le_left _ _; have h3 : min k (n - k) = m := h; omega
          have hcc := cell_of_row wr w.heap.size j _ _ _ HK.out
          rw [show (Addr.add ⟨w.heap.size, 0, none⟩ j) = ⟨w.heap.size, j, none⟩ from by simp [Addr.add]; omega]
          exact hcc.trans (by rw [List.getElem?_toArray]; exact reps_get _ _ hjk)⟩) (by rw [List.length_replicate, reps_len hk]; omega) (fun v hv => by rw [List.eq_of_mem_replicate hv]; exact H1.out) w.heap.size w (below_drew HB.out) (Nat.le_refl _) ?_; intro w3 hk3 hb3; have HK3 := Aside0.mk (show w3.heap[w.heap.size]? = some (.cells (reps n (k + m) y (.complex .f64 0 0)).toArray 51 (0, 0)) from by have h := hk3; unfold Hid at h; rw [reps_splice hml.2] at h; exact h); have HB3 := Aside0.mk hb3; clear hk3 hb3))
      go_wp2
      go_roundw
      case rel => exact ⟨k + m, by omega, .inr (by omega), by go_num, HK3, HB3⟩
      case measure => simp [intOf]; omega
    · have hke : k = n := by omega
      subst hke
      go_wp2
      go_ret
      refine ⟨rfl, ?_, HB.out⟩
      have h := HK.out
      unfold reps at h
      rw [Nat.sub_self, List.replicate_zero, List.append_nil] at h
      exact h
end Go.Proofs.YtlmkgghpaaadhaaGreatDoor.G

/- weigh.Of: rows that all weigh the same. -/
set_option linter.unusedVariables false
set_option linter.unusedSimpArgs false
namespace Go.Proofs.YtlmkgghpaaadhaaGreatDoor.G
open Go.RowKit Go.Proofs.YtlmkgghpaaadhaaGreatDoorW.PrintWords Go.Proofs.YtlmkgghpaaadhaaGreatDoorW.PrintLast Go.Proofs.YtlmkgghpaaadhaaGreatDoorW.PrintMore
theorem blk_at {P w4 : World} (hb : Below P.heap.size P w4) {g : Nat} {o : Obj} (hP : P.heap[g]? = some o) : w4.heap[g]? = some o := (hb.block _ (Array.getElem?_eq_some_iff.1 hP).1).trans hP
theorem at_leW {W : World} {g a : Nat} {o : Obj} (hk : W.heap[g]? = some o) (h : a ≤ g) : a ≤ g := h
theorem blk_two1 (W : World) (a b : Obj) : ((W.alloc a).alloc b).heap[W.heap.size]? = some a := (Below.heap_alloc _ _ _ (by simp)).trans (heap_alloc_new W a)
theorem blk_two2 (W : World) (a b : Obj) : ((W.alloc a).alloc b).heap[W.heap.size + 1]? = some b := by have h := heap_alloc_new (W.alloc a) b; rwa [World.size_alloc] at h
theorem rows64 {W : World} {g base : Nat} {xs : List Int} (h : W.heap[g]? = some (.cells (xs.map (Value.int .i64)).toArray 2 (0, 0))) (hb : base ≤ g) (hm : xs.length ≤ 1000000000) : Kd.R KI 2 W base (fun k => base ≤ k) (.slice (some ⟨g, 0, none⟩) xs.length xs.length) xs := by
  refine ⟨fun k hk => by have e : k = g := by simpa [Value.ownBlock] using hk.symm
                         rw [e]; exact hb, xs.map (Value.int .i64), ⟨by simp [KI, Kd.int, Kd.scalar], .inr ⟨g, xs.length, (xs.map (Value.int .i64)).toArray, rfl, hb, h, Nat.le_refl _, by unfold maxLen; omega, by simp [KI, Kd.int, Kd.scalar], ?_⟩⟩, by simp [KI, Kd.int, Kd.scalar], fun j p hj => ?_⟩
  · exact List.take_of_length_le (by simp [KI, Kd.int, Kd.scalar])
  · show ((xs.map (Value.int .i64)).drop (j * 1)).take 1 = [.int .i64 p]
    obtain ⟨hlt, rfl⟩ := List.getElem?_eq_some_iff.1 hj
    rw [Nat.mul_one, List.drop_eq_getElem_cons (by simpa using hlt)]
    simp
/-- What is made, row by row, within a box of three cells. -/
structure RowsOut3 (T : Nat) (w4 : World) (g : Nat) (s0 s1 s2 : Value) (xs : List (List Int)) (W : World) : Prop where
  but : But w4 g W
  blk : W.heap[g]? = some (.cells #[s0, s1, s2] T (0, 0))
  rows : Kd.N KL 22 W w4.heap.size (fun k => w4.heap.size ≤ k ∧ k ≠ g) s1 xs
theorem RowsOut3.start {T : Nat} {w4 : World} {g : Nat} {s0 s2 : Value} (h : w4.heap[g]? = some (.cells #[s0, .slice none 0 0, s2] T (0, 0))) : RowsOut3 T w4 g s0 (.slice none 0 0) s2 [] w4 := ⟨But.of g (Below.refl _ _), h, Kd.N_nil _ _ _ _ _⟩
theorem RowsOut3.step {T : Nat} {w4 W W1 : World} {g : Nat} {s0 s1 s2 : Value} {xs : List (List Int)} (h : RowsOut3 T w4 g s0 s1 s2 xs W) (hb : Below W.heap.size W W1) : RowsOut3 T w4 g s0 s1 s2 xs W1 :=
  ⟨h.but.step hb, (hb.block _ (Array.getElem?_eq_some_iff.1 h.blk).1).trans h.blk, Kd.N_below h.rows hb⟩
theorem RowsOut3.at1 {T : Nat} {w4 W W4 w1 : World} {g : Nat} {s0 s1 s2 : Value} {xs : List (List Int)} (h : RowsOut3 T w4 g s0 s1 s2 xs W) (hb : Below W.heap.size W W4) (hg : W4.grownBy w1 s1.ownBlock) : w1.heap[g]? = some (.cells #[s0, s1, s2] T (0, 0)) := by
  have hl := (Array.getElem?_eq_some_iff.1 h.blk).1
  exact (hg.block g (Nat.lt_of_lt_of_le hl hb.size) (Kd.N_away h.rows (fun k hk => hk.2))).trans ((hb.block g hl).trans h.blk)
theorem RowsOut3.push {T : Nat} {w4 W W4 w1 : World} {g : Nat} {s0 s1 s2 v1 : Value} {xs ys : List (List Int)} (h : RowsOut3 T w4 g s0 s1 s2 xs W) (hb : Below W.heap.size W W4) (hg : W4.grownBy w1 s1.ownBlock)
    (hN : Kd.N KL 22 w1 w4.heap.size (fun k => w4.heap.size ≤ k ∧ k ≠ g) v1 ys) : RowsOut3 T w4 g s0 v1 s2 ys (w1.setCell ⟨g, 1, none⟩ v1) :=
  ⟨((h.but.step hb).grown hg (fun k e => Kd.N_base h.rows k e)).set 1 v1, blk_set1 (h.at1 hb hg) 1 v1, Kd.N_far hN (p := ⟨g, 1, none⟩) (fun k hk => hk.2) v1⟩
/-- Behind the first statement. -/
structure OfSt (W0 : World) (sc : List Int) (n : Nat) (y : Value) (g gR : Nat) (A7 : Option Addr) (c7 : Nat) (W : World) : Prop where
  bel : Below W0.heap.size W0 W
  hg : W0.heap.size ≤ g
  blk : W.heap[g]? = some (.cells #[.slice A7 sc.length c7, .slice none 0 0, .slice (some ⟨gR, 0, none⟩) n n] 37 (0, 0))
  r0 : Kd.R KI 3 W W0.heap.size AnyB (.slice A7 sc.length c7) sc
  hR : W0.heap.size ≤ gR
  r2 : W.heap[gR]? = some (.cells (List.replicate n y).toArray 2 (0, 0))
theorem OfSt.put {W0 W5 : World} {sc : List Int} {n : Nat} {y : Value} {g gR : Nat} {A7 : Option Addr} {c7 : Nat} (hb : Below W0.heap.size W0 W5) (hg : W0.heap.size ≤ g) (hbk : W5.heap[g]? = some (.cells #[.slice none 0 0, .slice none 0 0, .slice none 0 0] 37 (0, 0))) (r0 : Kd.R KI 3 W5 W0.heap.size AnyB (.slice A7 sc.length c7) sc) (hR : W0.heap.size ≤ gR) (r2 : W5.heap[gR]? = some (.cells (List.replicate n y).toArray 2 (0, 0))) :
    OfSt W0 sc n y g gR A7 c7 (((W5.setCell ⟨g, 0, none⟩ (.slice A7 sc.length c7)).setCell ⟨g, 1, none⟩ (.slice none 0 0)).setCell ⟨g, 2, none⟩ (.slice (some ⟨gR, 0, none⟩) n n)) := by
  have hne : gR ≠ g := fun e => by
    rw [e, hbk] at r2
    have h := Option.some.inj r2
    injection h with _ h2 _
    exact absurd h2 (by decide)
  have h1 := blk_set1 hbk 0 (.slice A7 sc.length c7)
  have h2 := blk_set1 h1 1 (.slice none 0 0)
  exact ⟨((hb.setCell (p := ⟨g, 0, none⟩) hg _).setCell (p := ⟨g, 1, none⟩) hg _).setCell (p := ⟨g, 2, none⟩) hg _, hg, blk3_three hbk _ _ _, Kd.R_mono (Kd.R_set (Kd.R_set (Kd.R_set r0 hbk (int_ty _ (by decide)) 0 _) h1 (int_ty _ (by decide)) 1 _) h2 (int_ty _ (by decide)) 2 _) (fun _ _ => trivial), hR,
    (Below.heap_setCell _ _ _ _ hne).trans ((Below.heap_setCell _ _ _ _ hne).trans ((Below.heap_setCell _ _ _ _ hne).trans r2))⟩
theorem OfSt.new {W0 W5 : World} {sc : List Int} {n : Nat} {y : Value} {gR : Nat} {A7 : Option Addr} {c7 : Nat} (hb : Below W0.heap.size W0 W5) (r0 : Kd.R KI 3 W5 W0.heap.size AnyB (.slice A7 sc.length c7) sc) (hR : W0.heap.size ≤ gR) (r2 : W5.heap[gR]? = some (.cells (List.replicate n y).toArray 2 (0, 0))) :
    OfSt W0 sc n y W5.heap.size gR A7 c7 (W5.alloc (.cells #[.slice A7 sc.length c7, .slice none 0 0, .slice (some ⟨gR, 0, none⟩) n n] 37)) :=
  ⟨below_alloc hb _, hb.size, heap_alloc_new W5 _, Kd.R_below r0 (below_alloc (Below.refl _ _) _), hR, (Below.heap_alloc _ _ _ (Array.getElem?_eq_some_iff.1 r2).1).trans r2⟩

set_option maxHeartbeats 8000000 in
set_option maxRecDepth 100000 in
theorem of_int {A : Option Addr} {c : Nat} {sc : List Int} {A' : Option Addr} {c' : Nat} {L : List (List Int)} {w : World} (h : RelRd w A c sc A' c' L) (hm : sc.length ≤ 1000000) (hm1 : L.length ≤ 1000000) (hx : ∀ x ∈ L, x.length ≤ 1000000) (y : Int) :
    Calls Tryz.prog 28 #[.agg #[.slice A sc.length c, .slice A' L.length c'], .int .i64 y] w fun e w' => WTo w w' e ⟨sc, L, List.replicate L.length y⟩ := by
  have HR := Aside0.mk h
  have HX := Aside0.mk hx
  obtain ⟨W0, hW0⟩ : ∃ W0, (w.alloc (.cells #[.slice A sc.length c, .slice A' L.length c'] 31)).alloc (.cells #[.slice none 0 0, .slice none 0 0, .slice none 0 0] 37) = W0 := ⟨_, rfl⟩
  have hb0 : Below w.heap.size w W0 := by rw [← hW0]; exact below_alloc (below_alloc (Below.refl _ _) _) _
  have hk0 : W0.heap[w.heap.size]? = some (.cells #[.slice A sc.length c, .slice A' L.length c'] 31 (0, 0)) := by rw [← hW0]; exact (Below.heap_alloc _ _ _ (by simp)).trans (heap_alloc_new w _)
  have hz0 : W0.heap[w.heap.size + 1]? = some (.cells #[.slice none 0 0, .slice none 0 0, .slice none 0 0] 37 (0, 0)) := by rw [← hW0]; have := heap_alloc_new (w.alloc (.cells #[.slice A sc.length c, .slice A' L.length c'] 31)) (.cells #[.slice none 0 0, .slice none 0 0, .slice none 0 0] 37); rwa [World.size_alloc] at this
  have hs0 : W0.heap.size = w.heap.size + 2 := by rw [← hW0]; simp
  have H0 := Aside0.mk (And.intro hb0 (And.intro hk0 (And.intro hz0 hs0)))
  have q0 := blk2_c0 hk0
  have q1 := blk2_c1 hk0
  clear h hx hb0 hz0 hk0 hs0
  go_enter Tryz.func28, Tryz.ntmps28
  go_upto_region 1 with fail
  clear hW0
  go_cut [5] (fun s5 W => ∃ (g gR : Nat) (A7 : Option Addr) (c7 : Nat), s5 = .pointer (some ⟨g, 0, none⟩) ∧ Aside0 (OfSt W0 sc L.length (.int .i64 y) g gR A7 c7 W))
  case first =>
    have HST := Aside0.mk (show ∀ {W W1 : World}, (W.cell? ⟨w.heap.size, 0, none⟩ = some (.slice A sc.length c) ∧ W.cell? ⟨w.heap.size, 1, none⟩ = some (.slice A' L.length c') ∧ Below W0.heap.size W0 W) → Below W.heap.size W W1 → (W1.cell? ⟨w.heap.size, 0, none⟩ = some (.slice A sc.length c) ∧ W1.cell? ⟨w.heap.size, 1, none⟩ = some (.slice A' L.length c') ∧ Below W0.heap.size W0 W1) from fun {W W1} h hb => ⟨(hb.cell (World.block_lt_of_cell? W _ h.1)).trans h.1, (hb.cell (World.block_lt_of_cell? W _ h.2.1)).trans h.2.1, below_then h.2.2 h.2.2.size hb⟩)
    have HSB := Aside0.mk (show ∀ {W : World}, (W.cell? ⟨w.heap.size, 0, none⟩ = some (.slice A sc.length c) ∧ W.cell? ⟨w.heap.size, 1, none⟩ = some (.slice A' L.length c') ∧ Below W0.heap.size W0 W) → Below W0.heap.size W0 W from fun {W} h => h.2.2)
    have HSE := Aside0.mk (show ∀ {W : World} {g : Nat} (i : Nat) (u : Value), (W.cell? ⟨w.heap.size, 0, none⟩ = some (.slice A sc.length c) ∧ W.cell? ⟨w.heap.size, 1, none⟩ = some (.slice A' L.length c') ∧ Below W0.heap.size W0 W) → W0.heap.size ≤ g → ((W.setCell ⟨g, i, none⟩ u).cell? ⟨w.heap.size, 0, none⟩ = some (.slice A sc.length c) ∧ (W.setCell ⟨g, i, none⟩ u).cell? ⟨w.heap.size, 1, none⟩ = some (.slice A' L.length c') ∧ Below W0.heap.size W0 (W.setCell ⟨g, i, none⟩ u)) from fun {W g} i u h hg => ⟨cell_set_ne h.1 (by have := H0.out.2.2.2; show (w.heap.size : Nat) ≠ g; omega) i u, cell_set_ne h.2.1 (by have := H0.out.2.2.2; show (w.heap.size : Nat) ≠ g; omega) i u, h.2.2.setCell (p := ⟨g, i, none⟩) hg u⟩)
    have HSDA := Aside0.mk (show (W0.drew.cell? ⟨w.heap.size, 0, none⟩ = some (.slice A sc.length c) ∧ W0.drew.cell? ⟨w.heap.size, 1, none⟩ = some (.slice A' L.length c') ∧ Below W0.heap.size W0 W0.drew) from ⟨q0, q1, below_drew (Below.refl _ _)⟩)
    go_region_held3 (fun W => W.cell? ⟨w.heap.size, 0, none⟩ = some (.slice A sc.length c) ∧ W.cell? ⟨w.heap.size, 1, none⟩ = some (.slice A' L.length c') ∧ Below W0.heap.size W0 W)
      (first | with_reducible exact HS6A.out | with_reducible exact HS5A.out | with_reducible exact HS4A.out | with_reducible exact HSDA.out | with_reducible exact HST.out HS5A.out (below_alloc (Below.refl _ _) _) | with_reducible exact HST.out HS4A.out (below_alloc (Below.refl _ _) _) | with_reducible exact HST.out (by assumption) (below_alloc (Below.refl _ _) _) | with_reducible exact HST.out (by assumption) (below_drew (Below.refl _ _)))
      (first
        | (have hgd := HS4A; clear hgd; go_at_call 54; refine (repeat_int (.int .i64 y) rfl L.length (by omega) _ _ (by first | exact cell_of_blk1 hlk | exact cell_of_blk1 ((Below.heap_alloc w4 (.cells #[.slice none 0 0, .slice none 0 0, .slice none 0 0] 37) _ (Array.getElem?_eq_some_iff.1 hlk).1).trans hlk) | exact cell_of_blk1 (heap_alloc_new w4 (.cells #[.int .i64 y] 2)) | exact cell_of_blk1 (blk_two1 w4 (.cells #[.int .i64 y] 2) (.cells #[.slice none 0 0, .slice none 0 0, .slice none 0 0] 37)) | exact cell_of_blk1 (blk_two2 w4 (.cells #[.slice none 0 0, .slice none 0 0, .slice none 0 0] 37) (.cells #[.int .i64 y] 2)))).mono ?_; rintro e w5 ⟨rfl, hk5, hb5⟩; have hS5 := HST.out (by assumption) hb5; have HS5A := Aside0.mk hS5;
           have hb45 : Below w4.heap.size w4 w5 := (by first | exact hb5 | exact below_then (below_alloc (Below.refl _ _) _) (by simp) hb5 | exact below_then (below_alloc (below_alloc (Below.refl _ _) _) _) (by simp; omega) hb5);
           have HV5 := Aside0.mk (And.intro hk5 hb45); have hz5 := (HSB.out hS5).size;
           (first | (have hbk := blk_at hb5 hbk) | (have hbk := blk_at hb5 ((Below.heap_alloc w4 (.cells #[.int .i64 y] 2) _ (Array.getElem?_eq_some_iff.1 hbk).1).trans hbk)) | (have hbk := blk_at hb5 (heap_alloc_new w4 (.cells #[.slice none 0 0, .slice none 0 0, .slice none 0 0] 37))) | (have hbk := blk_at hb5 (blk_two1 w4 (.cells #[.slice none 0 0, .slice none 0 0, .slice none 0 0] 37) (.cells #[.int .i64 y] 2))) | (have hbk := blk_at hb5 (blk_two2 w4 (.cells #[.int .i64 y] 2) (.cells #[.slice none 0 0, .slice none 0 0, .slice none 0 0] 37))) | skip);
           have hw4 := HV4.out.2; (first | (have hkR : w5.heap[w4.heap.size]? = some (.cells (List.replicate L.length (.int .i64 y)).toArray 2 (0, 0)) := (by first | exact hk5 | (simpa using hk5)); have HKR := Aside0.mk hkR; try (obtain ⟨⟨p0, p1⟩, ⟨p2, p3⟩, ⟨p4, p5⟩⟩ := blk3_put hbk (.slice A7 sc.length c7) (.slice none 0 0) (.slice (some ⟨w4.heap.size, 0, none⟩) L.length L.length); have HP := Aside0.mk (OfSt.put (HSB.out hS5) (by first | exact Nat.le_refl _ | omega) hbk (Kd.R_below HV4.out.1 hb45) (by omega) hkR); have HS6A := Aside0.mk (HSE.out 2 (.slice (some ⟨w4.heap.size, 0, none⟩) L.length L.length) (HSE.out 1 (.slice none 0 0) (HSE.out 0 (.slice A7 sc.length c7) hS5 (at_leW hbk (by first | exact Nat.le_refl _ | omega))) (at_leW hbk (by first | exact Nat.le_refl _ | omega))) (at_leW hbk (by first | exact Nat.le_refl _ | omega))))) | (have hkR : w5.heap[w4.heap.size + 1]? = some (.cells (List.replicate L.length (.int .i64 y)).toArray 2 (0, 0)) := (by first | exact hk5 | (simpa using hk5)); have HKR := Aside0.mk hkR; try (obtain ⟨⟨p0, p1⟩, ⟨p2, p3⟩, ⟨p4, p5⟩⟩ := blk3_put hbk (.slice A7 sc.length c7) (.slice none 0 0) (.slice (some ⟨w4.heap.size + 1, 0, none⟩) L.length L.length); have HP := Aside0.mk (OfSt.put (HSB.out hS5) (by first | exact Nat.le_refl _ | omega) hbk (Kd.R_below HV4.out.1 hb45) (by omega) hkR); have HS6A := Aside0.mk (HSE.out 2 (.slice (some ⟨w4.heap.size + 1, 0, none⟩) L.length L.length) (HSE.out 1 (.slice none 0 0) (HSE.out 0 (.slice A7 sc.length c7) hS5 (at_leW hbk (by first | exact Nat.le_refl _ | omega))) (at_leW hbk (by first | exact Nat.le_refl _ | omega))) (at_leW hbk (by first | exact Nat.le_refl _ | omega))))) | (have hkR : w5.heap[w4.heap.size + 1 + 1]? = some (.cells (List.replicate L.length (.int .i64 y)).toArray 2 (0, 0)) := (by first | exact hk5 | (simpa using hk5)); have HKR := Aside0.mk hkR; try (obtain ⟨⟨p0, p1⟩, ⟨p2, p3⟩, ⟨p4, p5⟩⟩ := blk3_put hbk (.slice A7 sc.length c7) (.slice none 0 0) (.slice (some ⟨w4.heap.size + 1 + 1, 0, none⟩) L.length L.length); have HP := Aside0.mk (OfSt.put (HSB.out hS5) (by first | exact Nat.le_refl _ | omega) hbk (Kd.R_below HV4.out.1 hb45) (by omega) hkR); have HS6A := Aside0.mk (HSE.out 2 (.slice (some ⟨w4.heap.size + 1 + 1, 0, none⟩) L.length L.length) (HSE.out 1 (.slice none 0 0) (HSE.out 0 (.slice A7 sc.length c7) hS5 (at_leW hbk (by first | exact Nat.le_refl _ | omega))) (at_leW hbk (by first | exact Nat.le_refl _ | omega))) (at_leW hbk (by first | exact Nat.le_refl _ | omega)))))); have HQ5 := Aside0.mk (And.intro (HSB.out hS5) (Kd.R_below HV4.out.1 hb45)); clear hS5 hk5 hb5 hb45)
        | (go_at_call 53; refine (slices_Clone_any A c sc _ (Kd.C_below (Kd.C_below HR.out.row H0.out.1) (HSB.out (by assumption))) (by omega)).mono ?_; rintro e w4 ⟨v4, rfl, hv4, hb4⟩; have hS4 := HST.out (by assumption) hb4; have HS4A := Aside0.mk hS4; obtain ⟨A7, c7, rfl, _, _⟩ := Kd.R_reads hv4; have HV4 := Aside0.mk (And.intro (show Kd.R KI 3 w4 W0.heap.size AnyB (.slice A7 sc.length c7) sc from Kd.R_lower hv4 (by first | exact Nat.le_refl W0.heap.size | exact (below_drew (below_alloc (Below.refl W0.heap.size W0) _)).size | exact (below_drew (below_alloc (below_alloc (Below.refl W0.heap.size W0) _) _)).size | exact (below_alloc (Below.refl W0.heap.size W0) _).size | exact (below_alloc (below_alloc (Below.refl W0.heap.size W0) _) _).size)) (HSB.out hS4).size);
           (first | (have hbk := blk_at hb4 (heap_alloc_new W0 (.cells #[.slice none 0 0, .slice none 0 0, .slice none 0 0] 37))) | (have hbk := blk_at hb4 (blk_two1 W0 (.cells #[.slice none 0 0, .slice none 0 0, .slice none 0 0] 37) (.cells #[.int .i64 y] 2))) | (have hbk := blk_at hb4 (blk_two2 W0 (.cells #[.int .i64 y] 2) (.cells #[.slice none 0 0, .slice none 0 0, .slice none 0 0] 37))) | skip);
           (first | (have hlk := blk_at hb4 (heap_alloc_new W0 (.cells #[.int .i64 y] 2))) | (have hlk := blk_at hb4 (blk_two1 W0 (.cells #[.int .i64 y] 2) (.cells #[.slice none 0 0, .slice none 0 0, .slice none 0 0] 37))) | (have hlk := blk_at hb4 (blk_two2 W0 (.cells #[.slice none 0 0, .slice none 0 0, .slice none 0 0] 37) (.cells #[.int .i64 y] 2))) | skip);
           clear hv4 hb4 hS4))
    all_goals
      first
      | (have hgd := HP; clear hgd; (try (go_wp2_with fail)); go_meet; case rel => exact ⟨_, _, _, _, rfl, HP⟩)
      | ((try (go_wp2_with fail)); go_meet; case rel => exact ⟨_, _, _, _, rfl, ⟨OfSt.new HQ5.out.1 HQ5.out.2 (by have := HV4.out.2; omega) HKR.out⟩⟩)
  case rest =>
    obtain ⟨g, gR, A7, c7, rfl, HO⟩ := hcut
    have hgw : w.heap.size + 1 < g := by have := HO.out.hg; have := H0.out.2.2.2; omega
    have HB1 := Aside0.mk (below_then H0.out.1 H0.out.1.size HO.out.bel)
    have hbx := (HO.out.bel.block _ (by have := H0.out.2.2.2; omega)).trans H0.out.2.1
    have hbz := (HO.out.bel.block _ (by have := H0.out.2.2.2; omega)).trans H0.out.2.2.1
    have HBX := Aside0.mk (And.intro hbx hbz)
    have HRO := Aside0.mk (RowsOut3.start HO.out.blk)
    obtain ⟨s2, hs2⟩ : ∃ s, Value.slice (some ⟨gR, 0, none⟩) L.length L.length = s := ⟨_, rfl⟩
    rw [hs2] at HRO
    have HS2 := Aside0.mk hs2
    have q1' := blk2_c1 hbx
    have hgc := (Array.getElem?_eq_some_iff.1 HO.out.blk).1
    clear q0 q1 hbx hbz hs2
    rename World => wc
    go_wp2
    go_loopw [22] (fun i W => ∃ (k : Nat) (s1 : Value), k ≤ L.length ∧ i = .int .i64 k ∧ Aside0 (RowsOut3 37 wc g (.slice A7 sc.length c7) s1 s2 (L.take k) W)) (fun i _ => L.length - (intOf i).toNat)
    case atStart => exact ⟨0, _, Nat.zero_le _, rfl, HRO⟩
    case round =>
      clear HRO
      obtain ⟨k, s1, hk, rfl, HK⟩ := hrel
      have HBW := Aside0.mk (HK.out.but.below HB1.out HB1.out.size (by omega))
      by_cases hlt : k < L.length
      · obtain ⟨ad, Bx, cx, rfl, hxc, hlx, hcx⟩ := at_row HR.out.rows HBW.out k hlt
        have hkl : (k : Int) < (L.length : Int) := by omega
        have hxl : (L.getD k []).length ≤ 1000000 := HX.out _ (by rw [getD_get _ _ hlt]; exact List.getElem_mem hlt)
        have HTS := Aside0.mk (show L.take (k + 1) = L.take k ++ [L.getD k []] from by rw [List.take_succ_eq_append_getElem hlt, getD_get _ _ hlt])
        obtain ⟨x, hxe⟩ : ∃ x, L.getD k [] = x := ⟨_, rfl⟩
        rw [hxe] at hxc hlx hcx hxl HTS
        have HCX := Aside0.mk hcx
        have hgl7 := (Array.getElem?_eq_some_iff.1 HK.out.blk).1
        have HW2 := Aside0.mk HK.out.but.size
        have HOK := Aside0.mk (show ∀ q, wr.heap.size ≤ q → (wc.heap.size ≤ q ∧ q ≠ g) ∧ some q ≠ s1.ownBlock from fun q hq => ⟨⟨Nat.le_trans HW2.out hq, by omega⟩, fun e => by have := Kd.N_lt HK.out.rows q e.symm; omega⟩)
        have hfl : (L.take k).length ≤ 1000000 := by rw [List.length_take]; omega
        obtain ⟨FL, hFL⟩ : ∃ FL, L.take k = FL := ⟨_, rfl⟩
        rw [hFL] at HK hfl HTS
        have HFL := Aside0.mk hfl
        have qa := (blk3_c HK.out.blk).2.1
        clear hcx hxe hFL hfl hlx
        go_wp2_with fail
        go_region_law (first
          | (go_simp; go_at_call 53; refine (slices_Clone_any Bx cx x _ (Kd.C_below HCX.out (below_drew (Below.refl _ _))) (by omega)).mono ?_; rintro e w8 ⟨v8, rfl, hv8, hb8⟩; obtain ⟨A9, c9, rfl, _, _⟩ := Kd.R_reads hv8; have HV8 := Aside0.mk (And.intro hv8 hb8); have hbk8 := (hb8.block g hgl7).trans HK.out.blk; have qb := (blk3_c hbk8).2.1; have qc := (blk3_c ((Below.heap_alloc w8 (.cells #[.slice A9 x.length c9] 22) g (Array.getElem?_eq_some_iff.1 hbk8).1).trans hbk8)).2.1; have HB8 := Aside0.mk ((below_drew (Below.refl wr.heap.size wr)).trans hb8); clear hv8 hb8 hbk8) | ((refine Kd.N_append_step KL (w0 := w8) wc.heap.size (by rfl) (.tmp 28) (.tmp 31) 23 22 (.slice none 0 0) 24 rfl Tryz.underlying23 infoInts rfl (by decide) (by omega) s1 FL x [.slice A9 x.length c9] (fun q => wc.heap.size ≤ q ∧ q ≠ g) (fun q => wr.heap.size ≤ q) rfl rfl (Kd.FK_of_M (base := wr.drew.heap.size) ⟨_, rfl, Kd.R_mono (Kd.R_bound HV8.out.1) (fun q hq => hq.2.1)⟩) (fun q hq => HOK.out q hq) (fun q hq => (HOK.out q (Nat.le_trans HB8.out.size hq)).1) (Kd.N_below HK.out.rows HB8.out) (Below.refl _ _) (Nat.le_trans HW2.out HB8.out.size) (by have := HFL.out; omega) ?_); intro v9 w9 hN hB hgr hat; obtain ⟨A10, c10, rfl⟩ := Kd.N_slice hN; have hbk9 := HK.out.at1 HB8.out hgr; have qd := (blk3_c hbk9).2.1; have qe := blk_fr (i := 1) hbk9; have HP9 := Aside0.mk (HK.out.push HB8.out hgr hN); clear hN hB hgr hat hbk9))
        all_goals
          go_wp2_with fail
          go_roundw
          case rel => exact ⟨k + 1, _, by omega, by go_num, ⟨by rw [HTS.out]; have h := HP9.out; rw [List.length_append] at h; exact h⟩⟩
          case measure => simp [intOf]; omega
      · rw [List.take_of_length_le (by omega)] at HK
        obtain ⟨A10, c10, rfl⟩ := Kd.N_slice HK.out.rows
        obtain ⟨qa, qb, qc⟩ := blk3_c HK.out.blk
        have hzw := (HK.out.but.block _ (by have := (Array.getElem?_eq_some_iff.1 HBX.out.2).1; exact this) (by omega)).trans HBX.out.2
        obtain rfl := HS2.out
        obtain ⟨⟨p0, p1⟩, ⟨p2, p3⟩, ⟨p4, p5⟩⟩ := blk3_put hzw (.slice A7 sc.length c7) (.slice A10 L.length c10) (.slice (some ⟨gR, 0, none⟩) L.length L.length)
        have hz3 := blk3_three hzw (.slice A7 sc.length c7) (.slice A10 L.length c10) (.slice (some ⟨gR, 0, none⟩) L.length L.length)
        obtain ⟨r0, r1, r2⟩ := blk3_c hz3
        clear hz3 hzw
        go_wp2
        refine bodyPost_ret (v := .agg #[.slice A7 sc.length c7, .slice A10 L.length c10, .slice (some ⟨gR, 0, none⟩) L.length L.length]) (by simp [results, Tryz.results28, go_sem, r0, r1, r2]) rfl ?_
        have hs := H0.out.2.2.2
        have hR0 := HK.out.but.R (Kd.R_types HO.out.r0 HO.out.blk (int_ty _ (by decide)))
        have hR1 := Kd.R_mono (Kd.R_bound hR0) (ok' := fun q => W0.heap.size ≤ q) (fun q hq => hq.2.1)
        have hne : gR ≠ g := fun e => by
          have h1 := HO.out.r2
          rw [e, HO.out.blk] at h1
          have h2 := Option.some.inj h1
          injection h2 with _ h3 _
          exact absurd h3 (by decide)
        have hr2 := (HK.out.but.block _ (Array.getElem?_eq_some_iff.1 HO.out.r2).1 hne).trans HO.out.r2
        have hfin : ∀ {V : World} (i : Nat) (u : Value), V.heap[gR]? = some (.cells (List.replicate L.length (.int .i64 y)).toArray 2 (0, 0)) → (V.setCell ⟨w.heap.size + 1, i, none⟩ u).heap[gR]? = some (.cells (List.replicate L.length (.int .i64 y)).toArray 2 (0, 0)) := fun {V} i u h => (Below.heap_setCell V ⟨w.heap.size + 1, i, none⟩ u gR (by have := HO.out.hR; show gR ≠ w.heap.size + 1; omega)).trans h
        have hr3 := hfin 2 (.slice (some ⟨gR, 0, none⟩) L.length L.length) (hfin 1 (.slice A10 L.length c10) (hfin 0 (.slice A7 sc.length c7) hr2))
        have hM : RelM wr W0.heap.size (.agg #[.slice A7 sc.length c7, .slice A10 L.length c10]) (sc, L) := ⟨_, _, rfl, hR1, Kd.N_lower (Kd.N_mono HK.out.rows (fun q hq => Nat.le_trans HO.out.bel.size hq.1)) HO.out.bel.size⟩
        have hM3 := ((hM.far (p := ⟨w.heap.size + 1, 0, none⟩) (by show w.heap.size + 1 < W0.heap.size; omega) (.slice A7 sc.length c7)).far (p := ⟨w.heap.size + 1, 1, none⟩) (by show w.heap.size + 1 < W0.heap.size; omega) (.slice A10 L.length c10)).far (p := ⟨w.heap.size + 1, 2, none⟩) (by show w.heap.size + 1 < W0.heap.size; omega) (.slice (some ⟨gR, 0, none⟩) L.length L.length)
        have hB3 := ((HBW.out.setCell (p := ⟨w.heap.size + 1, 0, none⟩) (Nat.le_succ _) (.slice A7 sc.length c7)).setCell (p := ⟨w.heap.size + 1, 1, none⟩) (Nat.le_succ _) (.slice A10 L.length c10)).setCell (p := ⟨w.heap.size + 1, 2, none⟩) (Nat.le_succ _) (.slice (some ⟨gR, 0, none⟩) L.length L.length)
        have hrr : (List.replicate L.length y).map (Value.int .i64) = List.replicate L.length (.int .i64 y) := List.map_replicate
        have hw := rows64 (base := w.heap.size) (xs := List.replicate L.length y) (by rw [hrr]; exact hr3) (by have := HO.out.hR; omega) (by simp; omega)
        have hlr : (List.replicate L.length y).length = L.length := List.length_replicate
        rw [hlr] at hw
        exact ⟨A7, c7, A10, c10, some ⟨gR, 0, none⟩, L.length, by rw [hlr], ⟨hM3.lower (by omega), by show Kd.R KI 2 _ _ _ (.slice _ (List.replicate L.length y).length _) _; rw [hlr]; exact hw⟩, hB3⟩
end Go.Proofs.YtlmkgghpaaadhaaGreatDoor.G
