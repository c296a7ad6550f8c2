/- Several texts of this claim in one. -/
import Derived.Test.YtlmkgghpaaadhaaGreatDoorMD
import Derived.Test.YtlmkgghpaaadhaaGreatDoorMA
import Derived.Maps.Own
import Derived.Maps.Views
import Derived.Test.YtlmkgghpaaadhaaGreatDoorShelf
import Derived.Test.YtlmkgghpaaadhaaGreatDoorME
import Derived.Test.YtlmkgghpaaadhaaGreatDoorMC
import Derived.Lib.AppendIntMem
import Derived.Lib.ItoaLen
import Derived.Lib.Slices
import Derived.Laws.IdiomStrings
import Derived.OwnWalk
import Derived.WalkKit
import Derived.BigCall
/- slices.Concat of two rows of numbers. -/
set_option linter.unusedVariables false
set_option linter.unusedSimpArgs false
namespace Go.Proofs.YtlmkgghpaaadhaaGreatDoor.G
open Go.RowKit Go.Proofs.YtlmkgghpaaadhaaGreatDoorW.PrintWords Go.Proofs.YtlmkgghpaaadhaaGreatDoorW.PrintLast Go.Proofs.YtlmkgghpaaadhaaGreatDoorW.PrintMore

theorem heap_KI : Kd.Heap KI := Kd.heap_int _
theorem zero_KI (W : World) : Kd.FK KI W (fun _ => False) 0 (Value.int .i64 0).cells.toList := fun W' _ => rfl
set_option maxHeartbeats 2000000 in
set_option maxRecDepth 100000 in
theorem growI_any (n : Nat) (w : World) (hn : n ≤ 1000000000) :
    Calls Tryz.prog 107 #[.slice none 0 0, .int .i64 n] w fun e w' => ∃ v, e = .returned v ∧ Kd.N KI 3 w' w.heap.size (fun _ => True) v [] ∧ Below w.heap.size w w' := by
  have hneg : ¬ ((n : Int) < 0) := by omega
  have hnd : decide ((n : Int) < 0) = false := decide_eq_false hneg
  have hw : IntKind.i64.wrap (n : Int) = n := IntWalk.i64_in _ (by omega)
  rcases Nat.eq_zero_or_pos n with h0 | h0
  · subst h0
    go_enter Tryz.func107, Tryz.ntmps107
    go_wp2
    refine bodyPost_ret (v := .slice none 0 0) (by simp [results, Tryz.results107, go_sem]) rfl ?_
    exact ⟨_, rfl, Kd.N_nil _ _ _ _ _, Below.refl _ _⟩
  · have hp : (0 : Int) < (n : Int) := by omega
    go_enter Tryz.func107, Tryz.ntmps107
    go_wp2_with (at_builtin; refine Kd.N_append_zeros KI (w0 := w) w.heap.size rfl (.tmp 20) (.tmp 21) 22 3 3 (.int .i64 0) 8 rfl Tryz.underlying22 Tryz.underlying3 infoInt rfl (by decide) (by decide) _ [] 0 (n : Int) (fun _ => True) rfl rfl (zero_KI _) (fun _ _ => trivial) (Kd.N_nil _ _ _ _ _) (by omega) (Below.refl _ _) (Nat.le_refl _) (by simp; omega) ?_; intro v1 w1 hN hB hg hat; obtain ⟨gg, cap, rfl, hgb, hgl, hcl⟩ := Kd.N_form hN (by simp; omega); have HN := Aside0.mk (And.intro hN hB); clear hN hB hg hat)
    refine bodyPost_ret (v := .slice (some ⟨gg, 0, none⟩) 0 cap) (by simp [results, Tryz.results107, go_sem]) rfl ?_
    refine ⟨_, rfl, ?_, HN.out.2⟩
    have h := Kd.N_take HN.out.1 (m := 0) (Nat.zero_le _)
    rwa [List.take_zero] at h

set_option maxHeartbeats 4000000 in
set_option maxRecDepth 100000 in
theorem concatI2_any (B : Nat) (A0 : Option Addr) (c0 : Nat) (L0 : List Int) (A1 : Option Addr) (c1 : Nat) (L1 : List Int) (w : World) (hblk : w.heap[B]? = some (.cells #[.slice A0 L0.length c0, .slice A1 L1.length c1] 22 (0, 0))) (hr0 : Kd.C KI w A0 L0.length L0) (hr1 : Kd.C KI w A1 L1.length L1)
    (hm0 : L0.length ≤ 400000000) (hm1 : L1.length ≤ 400000000) :
    Calls Tryz.prog 90 #[.slice (some ⟨B, 0, none⟩) 2 2] w fun e w' => ∃ v, e = .returned v ∧ Kd.N KI 3 w' w.heap.size (fun _ => True) v (L0 ++ L1) ∧ Below w.heap.size w w' := by
  have HR := Aside0.mk (And.intro hr0 (And.intro hr1 hblk))
  have q0 := blk2_c0 hblk
  have q1 := blk2_c1 hblk
  have hBlt := (Array.getElem?_eq_some_iff.1 hblk).1
  clear hr0 hr1 hblk
  go_enter Tryz.func90, Tryz.ntmps90
  go_wp2
  go_loopw [3, 11] (fun s i W => ∃ k m : Nat, (k = 0 ∧ m = 0 ∨ k = 1 ∧ m = L0.length ∨ k = 2 ∧ m = L0.length + L1.length) ∧ s = .int .i64 m ∧ i = .int .i64 k ∧ Aside0 (w = W)) (fun _ i _ => 2 - (intOf i).toNat)
  case atStart => exact ⟨0, 0, .inl ⟨rfl, rfl⟩, rfl, rfl, ⟨rfl⟩⟩
  case round =>
    obtain ⟨k, m, hkm, rfl, rfl, HW⟩ := hrel
    obtain rfl := HW.out
    rcases hkm with ⟨rfl, rfl⟩ | ⟨rfl, rfl⟩ | ⟨rfl, rfl⟩
    · have hneg : decide ((L0.length : Int) < 0) = false := decide_eq_false (by omega)
      go_wp2
      go_roundw
      case rel => exact ⟨1, L0.length, .inr (.inl ⟨rfl, rfl⟩), by go_num, by go_num, ⟨by trivial⟩⟩
      case measure => simp [intOf]
    · have hneg : decide ((L0.length : Int) + (L1.length : Int) < 0) = false := decide_eq_false (by omega)
      have hw : IntKind.i64.wrap ((L0.length : Int) + (L1.length : Int)) = (L0.length : Int) + (L1.length : Int) := IntWalk.i64_in _ (by omega)
      go_wp2
      go_roundw
      case rel => exact ⟨2, L0.length + L1.length, .inr (.inr ⟨rfl, rfl⟩), by go_num, by go_num, ⟨by trivial⟩⟩
      case measure => simp [intOf]
    · have hgr := growI_any (L0.length + L1.length) w (by omega)
      have HG := Aside0.mk hgr
      clear hgr
      go_wp2_with (go_at_call 107; refine HG.out.mono ?_; rintro e w1 ⟨v1, rfl, hN, hB⟩; have hval := Kd.N_val hN; have HN := Aside0.mk (And.intro hN hB); clear hN hB)
      clear hval HG q0 q1
      go_loopw [6, 27] (fun u i W => ∃ (k : Nat) (xs : List Int), (k = 0 ∧ [] = xs ∨ k = 1 ∧ L0 = xs ∨ k = 2 ∧ L0 ++ L1 = xs) ∧ i = .int .i64 k ∧ Aside0 (Kd.N KI 3 W w.heap.size (fun _ => True) u xs ∧ Below w.heap.size w W)) (fun _ i _ => 2 - (intOf i).toNat)
      case atStart => exact ⟨0, [], .inl ⟨rfl, rfl⟩, rfl, HN⟩
      case round =>
        clear HN
        obtain ⟨k, xs, hkx, rfl, HN⟩ := hrel
        have hbl := (HN.out.2.block _ hBlt).trans HR.out.2.2
        have q0 := blk2_c0 hbl
        have q1 := blk2_c1 hbl
        clear hbl
        rcases hkx with ⟨rfl, rfl⟩ | ⟨rfl, rfl⟩ | ⟨rfl, rfl⟩
        · go_wp2_with (at_builtin; refine Kd.N_append_rows KI (w0 := w) w.heap.size rfl (.tmp 31) (.tmp 32) 22 3 (.int .i64 0) 8 rfl Tryz.underlying22 infoInt rfl (by decide) (by decide) _ [] L0 A0 _ _ (fun _ => True) (fun k => k < w.heap.size) rfl rfl HN.out.1 (Kd.F_below (Kd.C_F heap_KI HR.out.1) HN.out.2) (fun k hk => ⟨trivial, fun e => by have h1 := Kd.N_base HN.out.1 k e.symm; have h2 : k < w.heap.size := hk; omega⟩) (fun _ _ => trivial) HN.out.2 HN.out.2.size (by first | omega | (simp only [List.length_nil]; omega)) ?_; intro v2 w2 hN hB hg hat; have HN2 := Aside0.mk (And.intro hN hB); clear hN hB hg hat)
          go_roundw
          case rel => exact ⟨1, L0, .inr (.inl ⟨rfl, rfl⟩), by go_num, HN2⟩
          case measure => simp [intOf]
        · go_wp2_with (at_builtin; refine Kd.N_append_rows KI (w0 := w) w.heap.size rfl (.tmp 31) (.tmp 32) 22 3 (.int .i64 0) 8 rfl Tryz.underlying22 infoInt rfl (by decide) (by decide) _ L0 L1 A1 _ _ (fun _ => True) (fun k => k < w.heap.size) rfl rfl HN.out.1 (Kd.F_below (Kd.C_F heap_KI HR.out.2.1) HN.out.2) (fun k hk => ⟨trivial, fun e => by have h1 := Kd.N_base HN.out.1 k e.symm; have h2 : k < w.heap.size := hk; omega⟩) (fun _ _ => trivial) HN.out.2 HN.out.2.size (by first | omega | (simp only [List.length_nil]; omega)) ?_; intro v2 w2 hN hB hg hat; have HN2 := Aside0.mk (And.intro hN hB); clear hN hB hg hat)
          go_roundw
          case rel => exact ⟨2, L0 ++ L1, .inr (.inr ⟨rfl, rfl⟩), by go_num, HN2⟩
          case measure => simp [intOf]
        · go_wp2
          go_ret
          exact ⟨_, rfl, HN.out.1, HN.out.2⟩
end Go.Proofs.YtlmkgghpaaadhaaGreatDoor.G

/- A map from texts to rows of rows that a call has made and fills by append: the map as a function to slice values, and what each slice holds. -/
set_option linter.unusedVariables false
set_option linter.unusedSimpArgs false
namespace Go.Proofs.YtlmkgghpaaadhaaGreatDoor.G
open Go.RowKit Go.Proofs.YtlmkgghpaaadhaaGreatDoorW.PrintWords Go.Proofs.YtlmkgghpaaadhaaGreatDoorW.PrintLast Go.Proofs.YtlmkgghpaaadhaaGreatDoorW.PrintMore

/-- An element read as itself. -/
def heldV (v : Value) : Option (DataW Value × List MemPlace) := some (.held v, [])
def nilV : Value := .slice none 0 0
/-- Block b is a map from texts that gives f. -/
def MapV (P : Program) (k : TypeId) (W : World) (b : Nat) (f : List UInt8 → Value) (m : Nat) : Prop :=
  ∃ D : DataW Value, W.ownsMap P k heldV b m D ∧ Go.Maps.IsMap D ∧ ∀ s, D.atKey (.string s) (.held nilV) = .held (f s)
section
variable {P : Program} {k t e : TypeId} {W W1 : World} {b m : Nat} {f : List UInt8 → Value}
theorem MapV.made (P : Program) (k : TypeId) (W : World) : MapV P k (W.alloc (.map #[] 0)) W.heap.size (fun _ => nilV) 0 :=
  ⟨.map [], World.ownsMap_made W P k heldV, Go.Maps.isMap_empty, fun s => rfl⟩
theorem MapV.kept (h : MapV P k W b f m) {row : Option Nat} (hg : W.grownBy W1 row) (hne : some b ≠ row) : MapV P k W1 b f m := by
  obtain ⟨D, h1, h2, h3⟩ := h
  exact ⟨D, h1.kept hg hne, h2, h3⟩
theorem MapV.lt (h : MapV P k W b f m) : b < W.heap.size := by
  obtain ⟨D, h1, _⟩ := h
  exact h1.lt
theorem MapV.lookup (h : MapV P k W b f m) (hk : P.underlying k = some .string) (ht : P.underlying t = some (.map k e)) (hz : (zeroValue e).run P W = .ok nilV W) (s : ByteArray) (hs : s.size ≤ maxLen) :
    (Instr.lookup t (.map (some b)) (.string s) false).run P W = .ok (f s.data.toList) W := by
  obtain ⟨D, h1, _, h3⟩ := h
  obtain ⟨v, ps, hrun, hv⟩ := h1.lookup (Go.Maps.string_keyed hk) ht hz (show heldV nilV = some (.held nilV, []) from rfl) (Go.WideMaps.keyOf_string_mk hk hs)
  rw [h3] at hv
  have : v = f s.data.toList := by
    have h4 := congrArg Prod.fst (Option.some.inj hv)
    exact DataW.held.inj h4
  rw [hrun, this]
theorem MapV.update (h : MapV P k W b f m) (hk : P.underlying k = some .string) (ht : P.underlying t = some (.map k e)) (hm : m < maxLen) (s : ByteArray) (hs : s.size ≤ maxLen) (v : Value) :
    ∃ W', (Instr.mapUpdate t (.map (some b)) (.string s) v).run P W = .ok () W' ∧ MapV P k W' b (fun q => if q = s.data.toList then v else f q) (m + 1) ∧ W.grownBy W' (some b) := by
  obtain ⟨D, h1, h2, h3⟩ := h
  obtain ⟨W', hrun, h4, hg⟩ := h1.update (Go.Maps.string_keyed hk) ht hm (Go.WideMaps.keyOf_string_mk hk hs) (show heldV v = some (.held v, []) from rfl)
  refine ⟨W', hrun, ⟨_, h4, ?_, fun q => ?_⟩, hg⟩
  · obtain ⟨es, rfl⟩ := h2
    exact ⟨_, rfl⟩
  · by_cases hq : q = s.data.toList
    · subst hq
      show _ = DataW.held (if s.data.toList = s.data.toList then v else f s.data.toList)
      rw [if_pos rfl, Go.Maps.atKey_put_same h2 (show Go.WideAt.IsKeyLit (.string s.data.toList) from trivial)]
    · show _ = DataW.held (if q = s.data.toList then v else f q)
      rw [if_neg hq, Go.Maps.atKey_put_other (fun e => hq (by injection e)), h3]
end

/-- What each text's slice holds: rows that lie in blocks of 'ok', all ahead of the map; the slices' own blocks from 'base' on, each in a family of its own. -/
def Groups (P : Program) (k : TypeId) (W : World) (b base m : Nat) (ok : Nat → Prop) (G : List UInt8 → List (List Int)) : Prop :=
  ∃ (f : List UInt8 → Value) (fam : List UInt8 → Nat → Prop), MapV P k W b f m ∧ b < base ∧ (base ≤ W.heap.size ∧ ∀ q, ok q → q < b) ∧
    (∀ s, Kd.N KL 22 W base (fun q => ok q ∨ fam s q) (f s) (G s)) ∧ (∀ s q, fam s q → base ≤ q ∧ q < W.heap.size) ∧ ∀ s s' q, s ≠ s' → fam s q → ¬ fam s' q
section
variable {P : Program} {k t e : TypeId} {W W1 : World} {b base m : Nat} {ok : Nat → Prop} {G : List UInt8 → List (List Int)}
theorem Groups.made (P : Program) (k : TypeId) (W : World) (ok : Nat → Prop) (hok : ∀ q, ok q → q < W.heap.size) : Groups P k (W.alloc (.map #[] 0)) W.heap.size (W.heap.size + 1) 0 ok (fun _ => []) :=
  ⟨fun _ => nilV, fun _ _ => False, MapV.made P k W, Nat.lt_succ_self _, ⟨by rw [World.size_alloc]; exact Nat.le_refl _, hok⟩, fun s => Kd.N_nil _ _ _ _ _, fun s q h => h.elim, fun s s' q _ h => h.elim⟩
/-- Over whatever leaves all that there is. -/
theorem Groups.below (h : Groups P k W b base m ok G) (hb : Below W.heap.size W W1) (hg : W.grownBy W1 none) : Groups P k W1 b base m ok G := by
  obtain ⟨f, fam, h1, h2, h3, h4, h5, h6⟩ := h
  exact ⟨f, fam, h1.kept hg (by simp), h2, ⟨Nat.le_trans h3.1 hb.size, h3.2⟩, fun s => Kd.N_below (h4 s) hb, fun s q hq => ⟨(h5 s q hq).1, Nat.lt_of_lt_of_le (h5 s q hq).2 hb.size⟩, h6⟩
/-- The look-up: a slice that holds the text's rows. -/
theorem Groups.lookup (h : Groups P k W b base m ok G) (hk : P.underlying k = some .string) (ht : P.underlying t = some (.map k e)) (hz : (zeroValue e).run P W = .ok nilV W) (s : ByteArray) (hs : s.size ≤ maxLen) :
    ∃ A c, (Instr.lookup t (.map (some b)) (.string s) false).run P W = .ok (.slice A (G s.data.toList).length c) W ∧ (G s.data.toList).length ≤ c ∧ Kd.C KL W A (G s.data.toList).length (G s.data.toList) := by
  obtain ⟨f, fam, h1, h2, h3, h4, h5, h6⟩ := h
  obtain ⟨A, c, e, hl, hC⟩ := Kd.N_reads (h4 s.data.toList)
  exact ⟨A, c, by rw [h1.lookup hk ht hz s hs, e], hl, hC⟩
/-- The look-up in a loop that fills the map: the slice, and the way back: whatever an append leaves of it may be stored. -/
theorem Groups.way (h : Groups P k W b base m ok G) (hk : P.underlying k = some .string) (ht : P.underlying t = some (.map k e)) (hz : (zeroValue e).run P W = .ok nilV W) (s : ByteArray) (hs : s.size ≤ maxLen) (hm : m < maxLen) :
    ∃ (v : Value) (fs : Nat → Prop), (Instr.lookup t (.map (some b)) (.string s) false).run P W = .ok v W ∧ (∀ q, fs q → base ≤ q ∧ q < W.heap.size) ∧ Kd.N KL 22 W base (fun q => ok q ∨ fs q) v (G s.data.toList) ∧
      ∀ (v1 : Value) (W1 : World) (xs : List (List Int)), W.grownBy W1 v.ownBlock → Kd.N KL 22 W1 base (fun q => ok q ∨ (fs q ∨ W.heap.size ≤ q)) v1 xs → W.heap.size ≤ W1.heap.size →
        ∃ W2, (Instr.mapUpdate t (.map (some b)) (.string s) v1).run P W1 = .ok () W2 ∧ Groups P k W2 b base (m + 1) ok (fun q => if q = s.data.toList then xs else G q) ∧ W1.grownBy W2 (some b) := by
  obtain ⟨f, fam, h1, h2, h3, h4, h5, h6⟩ := h
  refine ⟨f s.data.toList, fam s.data.toList, h1.lookup hk ht hz s hs, h5 _, h4 _, fun v1 W1 xs hg hN hsz => ?_⟩
  have hbo : some b ≠ (f s.data.toList).ownBlock := fun e => by
    have := Kd.N_base (h4 s.data.toList) b e.symm
    omega
  have hM1 := h1.kept hg hbo
  obtain ⟨W2, hrun, hM2, hg2⟩ := hM1.update hk ht hm s hs v1
  have hs2 : W1.heap.size ≤ W2.heap.size := hg2.size
  -- another text's slice stands as it did
  have hother : ∀ q, q ≠ s.data.toList → Kd.N KL 22 W1 base (fun j => ok j ∨ fam q j) (f q) (G q) := fun q hq =>
    Kd.N_grown (h4 q) hg fun j hj e => by
      have hb1 := Kd.N_base (h4 s.data.toList) j e.symm
      rcases hj with hj | hj
      · have := h3.2 j hj; omega
      · rcases (h4 s.data.toList).1 j e.symm with hj' | hj'
        · have := h3.2 j hj'; omega
        · exact h6 q s.data.toList j hq hj hj'
  refine ⟨W2, hrun, ⟨fun q => if q = s.data.toList then v1 else f q, fun q j => if q = s.data.toList then (fam q j ∨ W.heap.size ≤ j) ∧ j < W1.heap.size else fam q j, hM2, h2, ⟨by have := h3.1; omega, h3.2⟩, fun q => ?_, fun q j hj => ?_, fun q q' j hne hj hj' => ?_⟩, hg2⟩
  · by_cases hq : q = s.data.toList
    · subst hq
      simp only [if_true]
      have h7 := Kd.N_grown (Kd.N_bound hN) hg2 (fun j hj e => by
        have e' := Option.some.inj e
        rcases hj.1 with h8 | h8 | h8
        · have := h3.2 j h8; omega
        · have := (h5 _ j h8).1; omega
        · have := h1.lt; omega)
      exact Kd.N_mono h7 fun j hj => hj.1.elim .inl fun h8 => .inr ⟨h8, hj.2⟩
    · simp only [if_neg hq]
      exact Kd.N_grown (hother q hq) hg2 fun j hj e => by
        have e' := Option.some.inj e
        rcases hj with h8 | h8
        · have := h3.2 j h8; omega
        · have := (h5 q j h8).1; omega
  · by_cases hq : q = s.data.toList
    · simp only [if_pos hq] at hj
      rcases hj.1 with h8 | h8
      · exact ⟨(h5 q j h8).1, by omega⟩
      · exact ⟨by have := h3.1; omega, by omega⟩
    · simp only [if_neg hq] at hj
      have := h5 q j hj
      exact ⟨this.1, by omega⟩
  · by_cases hq : q = s.data.toList
    · have hq' : ¬ q' = s.data.toList := fun e => hne (hq.trans e.symm)
      simp only [if_pos hq] at hj
      simp only [if_neg hq'] at hj'
      rcases hj.1 with h8 | h8
      · exact h6 q q' j hne h8 hj'
      · have := (h5 q' j hj').2; omega
    · simp only [if_neg hq] at hj
      by_cases hq' : q' = s.data.toList
      · simp only [if_pos hq'] at hj'
        rcases hj'.1 with h8 | h8
        · exact h6 q q' j hne hj h8
        · have := (h5 q j hj).2; omega
      · simp only [if_neg hq'] at hj'
        exact h6 q q' j hne hj hj'
theorem Groups.lt3 (h : Groups P k W b base m ok G) : b < W.heap.size := by
  obtain ⟨f, fam, h1, h2, h3, _⟩ := h
  exact h1.lt
/-- A store into a block ahead of the slices that holds none of it. -/
theorem Groups.set (h : Groups P k W b base m ok G) {g : Nat} (hg : g < base) (hb : g ≠ b) (hok : ¬ ok g) (i : Nat) (u : Value) : Groups P k (W.setCell ⟨g, i, none⟩ u) b base m ok G := by
  obtain ⟨f, fam, h1, h2, h3, h4, h5, h6⟩ := h
  refine ⟨f, fam, h1.kept (row := some g) ⟨rfl, rfl, rfl, by simp [World.setCell], fun k hk hne => Below.heap_setCell _ _ _ _ (fun e => hne (by rw [e]))⟩ (fun e => hb (Option.some.inj e).symm), h2, ⟨by simpa [World.setCell] using h3.1, h3.2⟩, fun s => Kd.N_far (h4 s) (p := ⟨g, i, none⟩) (fun q hq => ?_) u, fun s q hq => by simpa [World.setCell] using h5 s q hq, h6⟩
  rintro rfl
  rcases hq with hq | hq
  · exact hok hq
  · have := (h5 s q hq).1; omega
end
end Go.Proofs.YtlmkgghpaaadhaaGreatDoor.G

/- join.key: a tuple as a text; join.places. -/
set_option linter.unusedVariables false
set_option linter.unusedSimpArgs false
namespace Go.Proofs.YtlmkgghpaaadhaaGreatDoor.G
open Go.RowKit Go.Proofs.YtlmkgghpaaadhaaGreatDoorW.PrintWords Go.Proofs.YtlmkgghpaaadhaaGreatDoorW.PrintLast Go.Proofs.YtlmkgghpaaadhaaGreatDoorW.PrintMore

/-- The table that strconv reads. -/
abbrev Tab (w : World) : Prop := Lib.TabIs Tryz.prog w "internal/strconv.uint64pow10" .u64 Lib.pow10Tab
theorem Tab.step {w w1 : World} (h : Tab w) (hb : Below w.heap.size w w1) : Tab w1 := (Lib.tabBelow_of_tabIs h).on hb |>.here
theorem infoByte : (Tryz.prog.info? 5).map (fun i => (i.zero, i.size, i.bytes)) = some (some (.int .u8 0), 1, 1) := by kernel_rfl
/-- Numbers that an int64 may be. -/
def InR1 (t : List Int) : Prop := ∀ x ∈ t, -9223372036854775808 ≤ x ∧ x ≤ 9223372036854775807
theorem keyText_snoc (t : List Int) (n : Int) : keyText (t ++ [n]) = keyText t ++ 32 :: Lib.itoa n := by simp [keyText]
theorem keyText_len (t : List Int) (h : InR1 t) : (keyText t).length ≤ 22 * t.length := by
  induction t with
  | nil => simp [keyText]
  | cons n t ih =>
    have h1 := ih fun x hx => h x (List.mem_cons_of_mem _ hx)
    have h2 := h n List.mem_cons_self
    have h3 := Lib.itoa_length_le n h2.1 h2.2
    have e : keyText (n :: t) = (32 :: Lib.itoa n) ++ keyText t := by simp [keyText]
    rw [e, List.length_append, List.length_cons, List.length_cons]
    omega
theorem own_nil_bytes {w : World} {B : Nat} : w.ownsRow B 5 1 (.slice none 0 0) 0 (Lib.byteCells (keyText [])) := World.ownsRow_nil _ _ _ _

set_option maxHeartbeats 4000000 in
set_option maxRecDepth 100000 in
theorem key_any (A0 : Option Addr) (c0 : Nat) (t : List Int) (w : World) (hr0 : Kd.C KI w A0 t.length t) (hL : t.length ≤ 1000000000) (hin : InR1 t) (htab : Tab w) :
    Calls Tryz.prog 92 #[.slice A0 t.length c0] w fun e w' => e = .returned (.string ⟨(keyText t).toArray⟩) ∧ Below w.heap.size w w' := by
  have HR0 := Aside0.mk hr0
  have HIN := Aside0.mk hin
  have HT := Aside0.mk (Lib.tabBelow_of_tabIs htab)
  clear hr0 hin htab
  obtain ⟨i0, hi, hz0, hz1, hz2⟩ := info_parts infoByte
  go_enter Tryz.func92, Tryz.ntmps92
  go_wp2
  go_loopw [3, 8] (fun v i W => ∃ (k n : Nat), k ≤ t.length ∧ i = .int .i64 k ∧ n = (keyText (t.take k)).length ∧ Aside0 (W.ownsRow w.heap.size 5 1 v n (Lib.byteCells (keyText (t.take k)))) ∧ Aside0 (Below w.heap.size w W)) (fun _ i _ => t.length - (intOf i).toNat)
  case atStart => exact ⟨0, 0, Nat.zero_le _, rfl, rfl, ⟨own_nil_bytes⟩, ⟨Below.refl _ _⟩⟩
  case round =>
    obtain ⟨k, n, hk, rfl, hn, HO, HB⟩ := hrel
    by_cases hlt : k < t.length
    · obtain ⟨ad, rfl, hx⟩ := at_int' HR0.out HB.out k (by omega) (by omega)
      simp only [Int.toNat_natCast] at hx
      have hkl : (k : Int) < (t.length : Int) := by omega
      have hxr := HIN.out (rd t k) (by rw [rd_get t k hlt]; exact List.getElem_mem hlt)
      have hnl : n ≤ 22 * t.length := by
        have := keyText_len (t.take k) (fun x hx => HIN.out x (List.mem_of_mem_take hx))
        rw [hn]; refine Nat.le_trans this ?_; simp; omega
      have HN := Aside0.mk hn
      have ht : Hid (t.take (k + 1) = t.take k ++ [rd t k]) := Lib.hid (take_succ_rd t k hlt)
      clear hn
      have hbs := HB.out.size
      generalize rd t k = x at hx hxr ht
      go_wp2_with (first
        | (at_builtin; refine wpList_append_own _ rfl _ _ 152 rfl w.heap.size 5 i0 (.int .u8 0) 1 1 Tryz.underlying152 hi hz0 hz1 hz2 rfl (by decide) _ _ _ rfl (HO.out.alloc _) ⟨wr.heap.size, 0, none⟩ 1 1 [Value.int .u8 32] rfl rfl (by intro j u' hj; match j, hj with | 0, hj => simp at hj; subst hj; simp [Addr.add]) (by intro u' hu'; simp at hu'; subst hu'; rfl) (by unfold maxLen; omega) (by omega) (by simp; omega) ?_; intro v2 w2 hown2 hgrow hat; have HO2 := Aside0.mk hown2; have HB2 := Aside0.mk ((HB.out.alloc hbs (.cells #[.int .u8 32] 5)).grown hgrow (by simp; omega) (fun k hk => (HO.out.lt k hk).1)); clear hown2 hgrow hat)
        | (go_at_call 108; refine (Tryz.strconv_AppendInt_10 w.heap.size _ x hxr.1 hxr.2 v2 _ w2 HO2.out HB2.out.size (by omega) (HT.out.on HB2.out)).mono ?_; rintro e w3 ⟨v3, rfl, hown3, hnx3, -⟩; have HO3 := Aside0.mk hown3; have HB3 := Aside0.mk (HB2.out.trans hnx3); clear hown3 hnx3))
      go_roundw
      case measure => simp [intOf]; omega
      case rel =>
        refine ⟨k + 1, _, by omega, by go_num, rfl, ⟨?_⟩, HB3⟩
        rw [ht.out, keyText_snoc]
        have h := HO3.out
        have e1 : Lib.byteCells (keyText (t.take k)) ++ [Value.int .u8 32] ++ Lib.byteCells (Lib.itoa x) = Lib.byteCells (keyText (t.take k) ++ 32 :: Lib.itoa x) := by simp [Lib.byteCells]
        have e2 : n + 1 + (Lib.itoa x).length = (keyText (t.take k) ++ 32 :: Lib.itoa x).length := by rw [HN.out]; simp; omega
        rw [← e1, ← e2]
        exact h
    · have hke : k = t.length := by omega
      subst hke
      rw [List.take_length] at hn HO
      have HN := Aside0.mk hn
      clear hn
      rcases HO.out.2 with ⟨hv, h0⟩ | ⟨g, cap, cur, rfl, -, -, -, -, -, -⟩
      · subst hv
        have hnil : keyText t = [] := List.eq_nil_of_length_eq_zero (by rw [← HN.out]; exact h0)
        have hcv : (convert 152 9 (.slice none 0 0)).run Tryz.prog wr = .ok (.string ⟨(keyText t).toArray⟩) wr := by
          rw [run_convert_bytes_string wr 152 9 5 none 0 0 Tryz.underlying152 Tryz.underlying5 Tryz.underlying9, hnil]
          simp [Conv.bytesToString]
          rfl
        go_wp2
        go_ret
        exact ⟨by rw [hnil]; rfl, HB.out⟩
      · have hnn := HN.out
        subst hnn
        have hcv := run_convert_bytes_back (P := Tryz.prog) wr 152 9 5 ⟨g, 0, none⟩ cap (keyText t) Tryz.underlying152 Tryz.underlying5 Tryz.underlying9 (fun j hj => HO.out.cells (g := g) rfl j _ (by simp [Lib.byteCells, hj]))
        go_wp2
        go_ret
        exact ⟨rfl, HB.out⟩

set_option maxHeartbeats 4000000 in
set_option maxRecDepth 100000 in
theorem places_any (A0 : Option Addr) (c0 : Nat) (sc : List Int) (A2 : Option Addr) (c2 : Nat) (onto : List Int) (w : World) (hr0 : Kd.C KI w A0 sc.length sc) (hr2 : Kd.C KI w A2 onto.length onto) (hm2 : onto.length ≤ 1000000000) :
    Calls Tryz.prog 89 #[.slice A0 sc.length c0, .slice A2 onto.length c2] w fun e w' => ∃ v, e = .returned v ∧ Kd.R KI 3 w' w.heap.size AnyB v (onto.map (idx sc)) ∧ Below w.heap.size w w' := by
  have HR0 := Aside0.mk hr0
  have HR2 := Aside0.mk hr2
  have hmk := fun W => run_make_row' (P := Tryz.prog) 22 3 (.int .i64 0) 8 Tryz.underlying22 infoInt rfl .i64 .i64 onto.length (by omega) (by omega) W
  clear hr0 hr2
  go_enter Tryz.func89, Tryz.ntmps89
  go_wp2
  clear hmk
  obtain ⟨W0, hW0⟩ : ∃ W0, w.alloc (.cells (madeCells #[.int .i64 0] onto.length) 3) = W0 := ⟨_, rfl⟩
  have hb0 : Below w.heap.size w W0 := by rw [← hW0]; exact below_alloc (Below.refl _ _) _
  have hI0 : IntsAt W0 w.heap.size (madeCells #[.int .i64 0] onto.length) (onto.map (idx sc)) 0 := ⟨by rw [← hW0]; exact heap_alloc_new w (.cells (madeCells #[.int .i64 0] onto.length) 3), by simp [madeCells], fun j hj => by omega⟩
  rw [hW0]
  have HL0 := Aside0.mk (And.intro hb0 hI0)
  clear hb0 hI0 hW0
  go_loopw [13] (fun i W => ∃ (k : Nat) (cur : Array Value), k ≤ onto.length ∧ i = .int .i64 k ∧ Aside0 (Below w.heap.size w W ∧ IntsAt W w.heap.size cur (onto.map (idx sc)) k)) (fun i _ => onto.length - (intOf i).toNat)
  case atStart => exact ⟨0, _, Nat.zero_le _, rfl, HL0⟩
  case round =>
    obtain ⟨k, cur, hk, rfl, HL⟩ := hrel
    by_cases hlt : k < onto.length
    · obtain ⟨ad, rfl, hx⟩ := at_int' HR2.out HL.out.1 k (by omega) (by omega)
      simp only [Int.toNat_natCast] at hx
      have hcell := HL.out.2.cell k (by simpa using hlt)
      have hfr := HL.out.2.frozen k
      have hkl : (k : Int) < (onto.length : Int) := by omega
      have hcl : ∀ x, Calls Tryz.prog 74 #[.slice A0 sc.length c0, .int .i64 x] wr fun e w' => e = .returned (.int .i64 (idx sc x)) ∧ wr = w' := fun x => slices_Index_any A0 c0 sc x wr (Kd.C_below HR0.out HL.out.1)
      have hrm := Aside0.mk (rd_map onto (idx sc) k hlt)
      have hml := Aside0.mk (show k < (onto.map (idx sc)).length by simpa using hlt)
      go_wp2_with (go_at_call 74; refine (hcl _).mono ?_; rintro e w1 ⟨rfl, rfl⟩)
      go_roundw
      case measure => simp [intOf]; omega
      case rel =>
        refine ⟨k + 1, cur.setIfInBounds k (.int .i64 (idx sc (rd onto k))), by omega, by go_num, ⟨HL.out.1.setCell (p := ⟨w.heap.size, k, none⟩) (Nat.le_refl _) _, ?_⟩⟩
        rw [← hrm.out]; exact HL.out.2.push hml.out
    · have hke : k = onto.length := by omega
      subst hke
      have hR := HL.out.2
      have hlm : (onto.map (idx sc)).length = onto.length := List.length_map _
      have hrow := IntsAt.row (base := w.heap.size) (xs := onto.map (idx sc)) (by rw [hlm]; exact hR) (Nat.le_refl _) (by rw [hlm]; exact hm2)
      rw [hlm] at hrow
      have HRW := Aside0.mk hrow
      clear hR hrow hlm
      go_wp2
      go_ret
      exact ⟨_, rfl, HRW.out, HL.out.1⟩

theorem tuple_Unite_any (A0 : Option Addr) (c0 : Nat) (l0 : List Int) (A1 : Option Addr) (c1 : Nat) (l1 : List Int) (w : World) (hr0 : Kd.C KI w A0 l0.length l0) (hc0 : l0.length ≤ c0) (hr1 : Kd.C KI w A1 l1.length l1) (hc1 : l1.length ≤ c1) (hm : l0.length + l1.length ≤ 1000000000) :
    Calls Tryz.prog 88 #[.slice A0 l0.length c0, .slice A1 l1.length c1] w fun e w' => ∃ v, e = .returned v ∧ Kd.R KI 3 w' w.heap.size AnyB v (merge true true true l0 l1) ∧ Below w.heap.size w w' := by
  have HR0 := Aside0.mk hr0
  have HR1 := Aside0.mk hr1
  have HM := Aside0.mk hm
  clear hr0 hr1 hm
  go_enter Tryz.func88, Tryz.ntmps88
  go_wp2_with (go_at_call 106; refine (merge_any A0 c0 l0 A1 c1 l1 true true true w HR0.out hc0 HR1.out hc1 HM.out).mono ?_; rintro e w' ⟨v, rfl, hv, hb⟩; have HV := Aside0.mk hv; have HB := Aside0.mk hb; clear hv hb)
  go_ret
  exact ⟨_, rfl, HV.out, HB.out⟩
end Go.Proofs.YtlmkgghpaaadhaaGreatDoor.G

/- join.index: the rows of a relation, by what they have of some variables. -/
set_option linter.unusedVariables false
set_option linter.unusedSimpArgs false
namespace Go.Proofs.YtlmkgghpaaadhaaGreatDoor.G
open Go.RowKit Go.Proofs.YtlmkgghpaaadhaaGreatDoorW.PrintWords Go.Proofs.YtlmkgghpaaadhaaGreatDoorW.PrintLast Go.Proofs.YtlmkgghpaaadhaaGreatDoorW.PrintMore

theorem Groups.step {P : Program} {k : TypeId} {W W1 : World} {b base m : Nat} {ok : Nat → Prop} {G : List UInt8 → List (List Int)} (h : Groups P k W b base m ok G) (hb : Below W.heap.size W W1) : Groups P k W1 b base m ok G :=
  h.below hb ⟨hb.os, hb.tape, hb.output, hb.size, fun k hk _ => hb.block k hk⟩
theorem Groups.base_le {P : Program} {k : TypeId} {W : World} {b base m : Nat} {ok : Nat → Prop} {G : List UInt8 → List (List Int)} (h : Groups P k W b base m ok G) : base ≤ W.heap.size := by
  obtain ⟨f, fam, h1, h2, h3, _⟩ := h
  exact h3.1
/-- A row out of a row of rows, and where it lies. -/
theorem at_rowF {w w1 : World} {ok : Nat → Prop} {A : Option Addr} {L : List (List Int)} (h : Kd.F KL w ok A L.length L) (hb : Below w.heap.size w w1) (k : Nat) (hk : k < L.length) :
    ∃ ad B c, A = some ad ∧ w1.cell? (ad.add k) = some (.slice B (L.getD k []).length c) ∧ (L.getD k []).length ≤ c ∧ Kd.C KI w1 B (L.getD k []).length (L.getD k []) ∧ Kd.FK KL w1 ok (L.getD k []) [.slice B (L.getD k []).length c] := by
  obtain ⟨ad, cs, e, _, hK, hc, _⟩ := Kd.F_get (Kd.F_below h hb) ([] : List Int) (k : Int) (by omega) (by omega)
  rw [Int.toNat_natCast] at hK hc
  obtain ⟨B, c, hcs, hl, hr⟩ := Kd.FK_now hK
  subst hcs
  have h0 := hc 0 _ rfl
  rw [show KL.sz = 1 from rfl, Nat.mul_one, Nat.add_zero] at h0
  exact ⟨ad, B, c, e, h0, hl, hr, hK⟩
theorem key_is {A0 : Option Addr} {c0 : Nat} {t : List Int} {w : World} (hr0 : Kd.C KI w A0 t.length t) (hL : t.length ≤ 1000000000) (hin : InR1 t) (htab : Tab w) :
    Calls Tryz.prog 92 #[.slice A0 t.length c0] w fun e w' => ∃ s : ByteArray, e = .returned (.string s) ∧ (s.data.toList = keyText t ∧ s.size ≤ Go.maxLen) ∧ Below w.heap.size w w' := by
  refine (key_any A0 c0 t w hr0 hL hin htab).mono ?_
  rintro e w' ⟨rfl, hb⟩
  refine ⟨_, rfl, ⟨by simp, ?_⟩, hb⟩
  have := keyText_len t hin
  show (keyText t).toArray.size ≤ _
  unfold Go.maxLen
  rw [List.size_toArray]
  omega
theorem zeroRows (W : World) : (zeroValue 23).run Tryz.prog W = .ok nilV W := by kernel_rfl

set_option maxHeartbeats 4000000 in
set_option maxRecDepth 100000 in
theorem index_any (A0 : Option Addr) (c0 : Nat) (sc : List Int) (A1 : Option Addr) (c1 : Nat) (rows : List (List Int)) (A2 : Option Addr) (c2 : Nat) (vars : List Int) (w : World) (hr0 : Kd.C KI w A0 sc.length sc) (ok : Nat → Prop) (hr1 : Kd.F KL w ok A1 rows.length rows) (hok : ∀ q, ok q → q < w.heap.size) (hr2 : Kd.C KI w A2 vars.length vars)
    (hm1 : rows.length ≤ 1000000000) (hm2 : vars.length ≤ 1000000000) (hin : InR rows) (htab : Tab w) :
    Calls Tryz.prog 91 #[.agg #[.slice A0 sc.length c0, .slice A1 rows.length c1], .slice A2 vars.length c2] w fun e w' => ∃ b base, e = .returned (.map (some b)) ∧ (Groups Tryz.prog 9 w' b base rows.length ok (groupOf sc rows vars) ∧ w.heap.size ≤ b) ∧ Below w.heap.size w w' := by
  have HR := Aside0.mk (And.intro hr0 (And.intro hr1 hr2))
  have HIN := Aside0.mk hin
  have HT := Aside0.mk htab
  obtain ⟨W0, hW0⟩ : ∃ W0, w.alloc (.cells #[.slice A0 sc.length c0, .slice A1 rows.length c1] 31) = W0 := ⟨_, rfl⟩
  have hb0 : Below w.heap.size w W0 := by rw [← hW0]; exact below_alloc (Below.refl _ _) _
  have hblk : W0.heap[w.heap.size]? = some (.cells #[.slice A0 sc.length c0, .slice A1 rows.length c1] 31 (0, 0)) := by rw [← hW0]; exact heap_alloc_new w _
  have HB0 := Aside0.mk (And.intro hb0 hblk)
  have q0 := blk2_c0 hblk
  clear hr0 hr1 hr2 hin htab hb0 hblk
  have hmm := @run_makeMap Tryz.prog
  go_enter Tryz.func91, Tryz.ntmps91
  go_wp2_with (first | (go_at_call 89; refine (places_any A0 c0 sc A2 c2 vars W0 (Kd.C_below HR.out.1 HB0.out.1) (Kd.C_below HR.out.2.2 HB0.out.1) hm2).mono ?_; rintro e w1 ⟨v, rfl, hv, hb⟩; obtain ⟨A5, c5, rfl, _, hv5⟩ := Kd.R_reads hv; have HV := Aside0.mk (And.intro hv5 (below_then HB0.out.1 HB0.out.1.size hb)); have hbk := (hb.block _ (Array.getElem?_eq_some_iff.1 HB0.out.2).1).trans HB0.out.2; have hbk2 := (Below.heap_alloc w1 (.map #[] 0) _ (Array.getElem?_eq_some_iff.1 hbk).1).trans hbk; have q1 := blk2_c1 hbk2; clear hv hv5 hbk hbk2 hb))
  obtain ⟨ps, hps⟩ : ∃ ps, ps = vars.map (idx sc) := ⟨_, rfl⟩
  rw [← hps] at HV
  have hpl : ps.length ≤ 1000000000 := by rw [hps, List.length_map]; exact hm2
  have HPS := Aside0.mk hps
  clear hps
  have HG := Aside0.mk (And.intro (below_alloc (Below.refl w1.heap.size w1) (.map #[] 0)) (Groups.made Tryz.prog 9 w1 ok (fun q hq => Nat.lt_of_lt_of_le (hok q hq) HV.out.2.size)))
  clear hW0 q0 q1 hmm
  go_loopw [18] (fun i W => ∃ (k : Nat), k ≤ rows.length ∧ i = .int .i64 k ∧ Aside0 (Below w1.heap.size w1 W ∧ Groups Tryz.prog 9 W w1.heap.size (w1.heap.size + 1) k ok (groupOf sc (rows.take k) vars))) (fun i _ => rows.length - (intOf i).toNat)
  case atStart => exact ⟨0, Nat.zero_le _, rfl, HG⟩
  case round =>
    clear HG
    obtain ⟨k, hk, rfl, HG⟩ := hrel
    by_cases hlt : k < rows.length
    · have HBW := Aside0.mk (below_then HV.out.2 HV.out.2.size HG.out.1)
      obtain ⟨ad, Bx, cx, rfl, hx, hlx, hcx, hfk⟩ := at_rowF HR.out.2.1 HBW.out k hlt
      have hkl : (k : Int) < (rows.length : Int) := by omega
      have hgt := group_take sc rows vars k hlt
      have hxin : ∀ y ∈ rows.getD k [], -9223372036854775808 ≤ y ∧ y ≤ 9223372036854775807 := HIN.out _ (by rw [getD_get _ _ hlt]; exact List.getElem_mem hlt)
      obtain ⟨x, hxe⟩ : ∃ x, x = rows.getD k [] := ⟨_, rfl⟩
      rw [← hxe] at hx hlx hcx hfk hgt hxin
      rw [← HPS.out] at hgt
      have hkin : InR1 (pick x ps) := fun y hy => hxin y (pick_mem hy)
      have hkl2 : (pick x ps).length ≤ 1000000000 := Nat.le_trans (pick_len x ps) hpl
      have HX := Aside0.mk (And.intro hcx (And.intro hfk (And.intro hkin hgt)))
      clear hcx hfk hkin hgt hxin hxe
      have hpk := tuple_Pick_any Bx cx x A5 c5 ps wr HX.out.1 (Kd.C_below HV.out.1 HG.out.1) hpl
      rw [show ps.length = vars.length by rw [HPS.out, List.length_map]] at hpk
      go_wp2_with (first
        | (go_at_call 76; refine hpk.mono ?_; rintro e w2 ⟨v2, rfl, hv2, hb2⟩; obtain ⟨A6, c6, rfl, _, hv6⟩ := Kd.R_reads hv2; have HP := Aside0.mk (And.intro hv6 hb2); clear hv2 hv6 hb2)
        | (go_at_call 92; refine (key_is HP.out.1 hkl2 HX.out.2.2.1 (HT.out.step (below_then HBW.out HBW.out.size HP.out.2))).mono ?_; rintro e w3 ⟨s, rfl, hs, hb3⟩; have HK := Aside0.mk (And.intro hs (below_then HP.out.2 HP.out.2.size hb3)); obtain ⟨vg, fs, hlook, hfs, hN, hway⟩ := (HG.out.2.step HK.out.2).way (t := 135) (e := 23) Tryz.underlying9 Tryz.underlying135 (zeroRows _) s hs.2 (by unfold Go.maxLen; omega); obtain ⟨Ag, cg, rfl, hcg, hCg⟩ := Kd.N_reads hN; have HN := Aside0.mk (And.intro hfs (And.intro hN hway)); clear hs hb3 hfs hN hway hCg)
        | (at_builtin; refine Kd.N_append KL (w0 := w3) (w1.heap.size + 1) rfl (.tmp 30) (.tmp 32) 23 22 (.slice none 0 0) 24 rfl Tryz.underlying23 infoInts rfl (by decide) (by decide) _ _ x [.slice Bx x.length cx] (fun q => ok q ∨ (fs q ∨ w3.heap.size ≤ q)) ok rfl rfl (Kd.FK_below HX.out.2.1 HK.out.2) (fun q hq => ⟨.inl hq, fun e => by have h1 := Kd.N_base HN.out.2.1 q e.symm; have h2 : q < w.heap.size := hok q hq; have h3 := HV.out.2.size; omega⟩) (fun q hq => .inr (.inr hq)) (Kd.N_mono HN.out.2.1 (fun q hq => hq.elim .inl fun h => .inr (.inl h))) (Below.refl _ _) (Nat.le_trans HG.out.2.base_le HK.out.2.size) (by have h1 := group_len sc (rows.take k) vars s.data.toList; have h2 : (rows.take k).length ≤ k := List.length_take_le _ _; omega) ?_; intro v4 w4 hN4 hB4 hg4 hat4; obtain ⟨W5, hup, HG5, hg5⟩ := HN.out.2.2 v4 w4 _ hg4 hN4 hg4.size; have HU := Aside0.mk (And.intro HG5 (And.intro hg4 (And.intro hg5 (fun j (e : _ = some j) => Kd.N_base HN.out.2.1 j e)))); clear HG5 hg4 hg5 hN4 hB4 hat4))
      go_roundw
      case measure => simp [intOf]; omega
      case rel =>
        refine ⟨k + 1, by omega, by go_num, ⟨?_, ?_⟩⟩
        · have h1 := below_then HG.out.1 HG.out.1.size HK.out.2
          have h2 := h1.grown HU.out.2.1 h1.size (fun j e => by have := HU.out.2.2.2 j e; omega)
          exact h2.grown HU.out.2.2.1 h2.size (fun j e => by have := Option.some.inj e; omega)
        · have h := HU.out.1
          rw [HK.out.1.1] at h
          have e := HX.out.2.2.2
          have e2 : groupOf sc (rows.take (k + 1)) vars = _ := e
          rw [e2]; exact h
    · have hke : k = rows.length := by omega
      subst hke
      rw [List.take_length] at HG
      go_wp2
      go_ret
      exact ⟨_, _, rfl, ⟨HG.out.2, HV.out.2.size⟩, below_then HV.out.2 HV.out.2.size HG.out.1⟩
end Go.Proofs.YtlmkgghpaaadhaaGreatDoor.G
