/- slices.Concat of two rows of numbers. -/
import Derived.Test.YtnmonjincnlhiaaDoorMD
set_option linter.unusedVariables false
set_option linter.unusedSimpArgs false
namespace Go.Proofs.YtnmonjincnlhiaaDoor.G
open Go.RowKit Go.Proofs.YtnmonjincnlhiaaDoorW.PrintWords Go.Proofs.YtnmonjincnlhiaaDoorW.PrintLast Go.Proofs.YtnmonjincnlhiaaDoorW.PrintMore

theorem heap_KI : Kd.Heap KI := Kd.heap_int _
theorem zero_KI (W : World) : Kd.FK KI W (fun _ => False) 0 (Value.int .i64 0).cells.toList := fun W' _ => rfl
set_option maxHeartbeats 2000000 in
set_option maxRecDepth 100000 in
theorem growI_any (n : Nat) (w : World) (hn : n ≤ 1000000000) :
    Calls Tryd.prog 53 #[.slice none 0 0, .int .i64 n] w fun e w' => ∃ v, e = .returned v ∧ Kd.N KI 3 w' w.heap.size (fun _ => True) v [] ∧ Below w.heap.size w w' := by
  have hneg : ¬ ((n : Int) < 0) := by omega
  have hnd : decide ((n : Int) < 0) = false := decide_eq_false hneg
  have hw : IntKind.i64.wrap (n : Int) = n := IntWalk.i64_in _ (by omega)
  rcases Nat.eq_zero_or_pos n with h0 | h0
  · subst h0
    go_enter Tryd.func53, Tryd.ntmps53
    go_wp2
    refine bodyPost_ret (v := .slice none 0 0) (by simp [results, Tryd.results53, go_sem]) rfl ?_
    exact ⟨_, rfl, Kd.N_nil _ _ _ _ _, Below.refl _ _⟩
  · have hp : (0 : Int) < (n : Int) := by omega
    go_enter Tryd.func53, Tryd.ntmps53
    go_wp2_with (at_builtin; refine Kd.N_append_zeros KI (w0 := w) w.heap.size rfl (.tmp 20) (.tmp 21) 22 3 3 (.int .i64 0) 8 rfl Tryd.underlying22 Tryd.underlying3 infoInt rfl (by decide) (by decide) _ [] 0 (n : Int) (fun _ => True) rfl rfl (zero_KI _) (fun _ _ => trivial) (Kd.N_nil _ _ _ _ _) (by omega) (Below.refl _ _) (Nat.le_refl _) (by simp; omega) ?_; intro v1 w1 hN hB hg hat; obtain ⟨gg, cap, rfl, hgb, hgl, hcl⟩ := Kd.N_form hN (by simp; omega); have HN := Aside0.mk (And.intro hN hB); clear hN hB hg hat)
    refine bodyPost_ret (v := .slice (some ⟨gg, 0, none⟩) 0 cap) (by simp [results, Tryd.results53, go_sem]) rfl ?_
    refine ⟨_, rfl, ?_, HN.out.2⟩
    have h := Kd.N_take HN.out.1 (m := 0) (Nat.zero_le _)
    rwa [List.take_zero] at h

set_option maxHeartbeats 4000000 in
set_option maxRecDepth 100000 in
theorem concatI2_any (B : Nat) (A0 : Option Addr) (c0 : Nat) (L0 : List Int) (A1 : Option Addr) (c1 : Nat) (L1 : List Int) (w : World) (hblk : w.heap[B]? = some (.cells #[.slice A0 L0.length c0, .slice A1 L1.length c1] 22 (0, 0))) (hr0 : Kd.C KI w A0 L0.length L0) (hr1 : Kd.C KI w A1 L1.length L1)
    (hm0 : L0.length ≤ 400000000) (hm1 : L1.length ≤ 400000000) :
    Calls Tryd.prog 36 #[.slice (some ⟨B, 0, none⟩) 2 2] w fun e w' => ∃ v, e = .returned v ∧ Kd.N KI 3 w' w.heap.size (fun _ => True) v (L0 ++ L1) ∧ Below w.heap.size w w' := by
  have HR := Aside0.mk (And.intro hr0 (And.intro hr1 hblk))
  have q0 := blk2_c0 hblk
  have q1 := blk2_c1 hblk
  have hBlt := (Array.getElem?_eq_some_iff.1 hblk).1
  clear hr0 hr1 hblk
  go_enter Tryd.func36, Tryd.ntmps36
  go_wp2
  go_loopw [3, 11] (fun s i W => ∃ k m : Nat, (k = 0 ∧ m = 0 ∨ k = 1 ∧ m = L0.length ∨ k = 2 ∧ m = L0.length + L1.length) ∧ s = .int .i64 m ∧ i = .int .i64 k ∧ Aside0 (w = W)) (fun _ i _ => 2 - (intOf i).toNat)
  case atStart => exact ⟨0, 0, .inl ⟨rfl, rfl⟩, rfl, rfl, ⟨rfl⟩⟩
  case round =>
    obtain ⟨k, m, hkm, rfl, rfl, HW⟩ := hrel
    obtain rfl := HW.out
    rcases hkm with ⟨rfl, rfl⟩ | ⟨rfl, rfl⟩ | ⟨rfl, rfl⟩
    · have hneg : decide ((L0.length : Int) < 0) = false := decide_eq_false (by omega)
      go_wp2
      go_roundw
      case rel => exact ⟨1, L0.length, .inr (.inl ⟨rfl, rfl⟩), by go_num, by go_num, ⟨by trivial⟩⟩
      case measure => simp [intOf]
    · have hneg : decide ((L0.length : Int) + (L1.length : Int) < 0) = false := decide_eq_false (by omega)
      have hw : IntKind.i64.wrap ((L0.length : Int) + (L1.length : Int)) = (L0.length : Int) + (L1.length : Int) := IntWalk.i64_in _ (by omega)
      go_wp2
      go_roundw
      case rel => exact ⟨2, L0.length + L1.length, .inr (.inr ⟨rfl, rfl⟩), by go_num, by go_num, ⟨by trivial⟩⟩
      case measure => simp [intOf]
    · have hgr := growI_any (L0.length + L1.length) w (by omega)
      have HG := Aside0.mk hgr
      clear hgr
      go_wp2_with (go_at_call 53; refine HG.out.mono ?_; rintro e w1 ⟨v1, rfl, hN, hB⟩; have hval := Kd.N_val hN; have HN := Aside0.mk (And.intro hN hB); clear hN hB)
      clear hval HG q0 q1
      go_loopw [6, 27] (fun u i W => ∃ (k : Nat) (xs : List Int), (k = 0 ∧ [] = xs ∨ k = 1 ∧ L0 = xs ∨ k = 2 ∧ L0 ++ L1 = xs) ∧ i = .int .i64 k ∧ Aside0 (Kd.N KI 3 W w.heap.size (fun _ => True) u xs ∧ Below w.heap.size w W)) (fun _ i _ => 2 - (intOf i).toNat)
      case atStart => exact ⟨0, [], .inl ⟨rfl, rfl⟩, rfl, HN⟩
      case round =>
        clear HN
        obtain ⟨k, xs, hkx, rfl, HN⟩ := hrel
        have hbl := (HN.out.2.block _ hBlt).trans HR.out.2.2
        have q0 := blk2_c0 hbl
        have q1 := blk2_c1 hbl
        clear hbl
        rcases hkx with ⟨rfl, rfl⟩ | ⟨rfl, rfl⟩ | ⟨rfl, rfl⟩
        · go_wp2_with (at_builtin; refine Kd.N_append_rows KI (w0 := w) w.heap.size rfl (.tmp 31) (.tmp 32) 22 3 (.int .i64 0) 8 rfl Tryd.underlying22 infoInt rfl (by decide) (by decide) _ [] L0 A0 _ _ (fun _ => True) (fun k => k < w.heap.size) rfl rfl HN.out.1 (Kd.F_below (Kd.C_F heap_KI HR.out.1) HN.out.2) (fun k hk => ⟨trivial, fun e => by have h1 := Kd.N_base HN.out.1 k e.symm; have h2 : k < w.heap.size := hk; omega⟩) (fun _ _ => trivial) HN.out.2 HN.out.2.size (by first | omega | (simp only [List.length_nil]; omega)) ?_; intro v2 w2 hN hB hg hat; have HN2 := Aside0.mk (And.intro hN hB); clear hN hB hg hat)
          go_roundw
          case rel => exact ⟨1, L0, .inr (.inl ⟨rfl, rfl⟩), by go_num, HN2⟩
          case measure => simp [intOf]
        · go_wp2_with (at_builtin; refine Kd.N_append_rows KI (w0 := w) w.heap.size rfl (.tmp 31) (.tmp 32) 22 3 (.int .i64 0) 8 rfl Tryd.underlying22 infoInt rfl (by decide) (by decide) _ L0 L1 A1 _ _ (fun _ => True) (fun k => k < w.heap.size) rfl rfl HN.out.1 (Kd.F_below (Kd.C_F heap_KI HR.out.2.1) HN.out.2) (fun k hk => ⟨trivial, fun e => by have h1 := Kd.N_base HN.out.1 k e.symm; have h2 : k < w.heap.size := hk; omega⟩) (fun _ _ => trivial) HN.out.2 HN.out.2.size (by first | omega | (simp only [List.length_nil]; omega)) ?_; intro v2 w2 hN hB hg hat; have HN2 := Aside0.mk (And.intro hN hB); clear hN hB hg hat)
          go_roundw
          case rel => exact ⟨2, L0 ++ L1, .inr (.inr ⟨rfl, rfl⟩), by go_num, HN2⟩
          case measure => simp [intOf]
        · go_wp2
          go_ret
          exact ⟨_, rfl, HN.out.1, HN.out.2⟩
end Go.Proofs.YtnmonjincnlhiaaDoor.G
