/- slices.Sorted(slices.Values(l)): a new row that holds l's numbers, sorted. -/
import Derived.Test.YtpimooejnpdlpaaGreatDoorMA
import Derived.Test.YtpimooejnpdlpaaGreatDoorShelf
import Derived.Shelf.SlIterI.Sorted
import Derived.Lib.RowBridge
set_option linter.unusedVariables false
set_option linter.unusedSimpArgs false
namespace Go.Proofs.YtpimooejnpdlpaaGreatDoor.G
open Go.RowKit Go.Sort Go.Shelf Go.Proofs.YtpimooejnpdlpaaGreatDoorW.PrintWords Go.Proofs.YtpimooejnpdlpaaGreatDoorW.PrintLast Go.Proofs.YtpimooejnpdlpaaGreatDoorW.PrintMore

set_option maxHeartbeats 1000000 in
set_option maxRecDepth 100000 in
/-- The iterator over a row: its numbers come, one by one, as long as the rounds leave alone what lay ahead. -/
theorem vals_gives (n : Nat) (hn : 1 ≤ n) (A0 : Option Addr) (c0 : Nat) (l0 : List Int) (Bm : Nat) (w : World) (hBm : Bm < w.heap.size) (hm : w.cell? ⟨Bm, 0, none⟩ = some (.slice A0 l0.length c0)) (hr : Kd.C KI w A0 l0.length l0) (hL : l0.length ≤ 1000000000)
    (l : Nat) (J : List Int → World → Prop) (W : World) (hW : Below w.heap.size w W)
    (hY : ∀ pre x W1, J pre W1 → pre.length < l0.length → YieldAt Fence.wide (n - 1) Tryz.prog l #[encZ x] W1 fun e W' => e = .returned (.bool true) ∧ J (pre ++ [x]) W' ∧ KeepsWalks W1 W')
    (hJ : ∀ pre W1, J pre W1 → Below w.heap.size w W1) (h0 : J [] W) :
    CallsIn Fence.wide n Tryz.prog 62 #[.func (.yield l) #[] #[], .pointer (some ⟨Bm, 0, none⟩)] W fun e W' => (∃ v, e = .returned v) ∧ J l0 W' := by
  have hm' : W.cell? ⟨Bm, 0, none⟩ = _ := (hW.cell (p := ⟨Bm, 0, none⟩) hBm).trans hm
  have HR := Aside0.mk hr
  clear hr
  refine callsIn_of_wp Tryz.func62 rfl trivial ?_ rfl
  simp only [Tryz.ntmps62, List.size_toArray, List.length_cons, List.length_nil, Nat.reduceAdd, Nat.reduceSub, Array.replicate_succ, Array.replicate_zero, List.push_toArray, List.append_toArray, List.nil_append, List.cons_append]
  gi_wp2
  clear hm'
  gi_loopw [7] (fun i wr => ∃ k : Nat, k ≤ l0.length ∧ i = .int .i64 k ∧ J (l0.take k) wr) (fun i _ => l0.length - (intOf i).toNat)
  case atStart => exact ⟨0, Nat.zero_le _, rfl, h0⟩
  case round =>
    obtain ⟨k, hk, rfl, hJk⟩ := hrel
    by_cases hlt : k < l0.length
    · obtain ⟨ad, rfl, hx⟩ := at_int' HR.out (hJ _ _ hJk) k (by omega) (by omega)
      simp only [Int.toNat_natCast] at hx
      obtain ⟨fn, tmps, assign, body, hy, hR⟩ := hY (l0.take k) (rd l0 k) wr hJk (by simp; omega)
      have ht := Aside0.mk (take_succ_rd l0 k hlt)
      gi_wp2
      refine hR.mono ?_
      rintro e W3 ⟨rfl, hJ3, hk3⟩
      gi_wp2
      go_roundw
      case rel => exact ⟨k + 1, by omega, by go_num, by rw [ht.out]; exact hJ3⟩
      case measure => simp [intOf]; omega
    · gi_wp2
      go_end0
      rw [List.take_of_length_le (by omega)] at hJk
      exact ⟨⟨_, rfl⟩, hJk⟩

theorem R_of_ints {w : World} {base : Nat} {v : Value} {xs : List Int} (h : w.ownsRow base 3 1 v xs.length (xs.map encZ)) : Kd.R KI 3 w base AnyB v xs :=
  ⟨fun _ _ => trivial, _, h, by simp [KI, Kd.int, Kd.scalar], fun j p hj => by
    show ((xs.map encZ).drop (j * 1)).take 1 = [encZ p]
    obtain ⟨hlt, rfl⟩ := List.getElem?_eq_some_iff.1 hj
    rw [Nat.mul_one, List.drop_eq_getElem_cons (by simpa using hlt)]
    simp⟩

set_option maxRecDepth 100000 in
set_option maxHeartbeats 2000000 in
/-- slices.AppendSeq(nil, seq) where seq is slices.Values's. -/
theorem appendSeq_values (n : Nat) (hn : 2 ≤ n) (A0 : Option Addr) (c0 : Nat) (l0 : List Int) (Bm : Nat) (w : World) (hBm : Bm < w.heap.size) (hm : w.cell? ⟨Bm, 0, none⟩ = some (.slice A0 l0.length c0)) (hr : Kd.C KI w A0 l0.length l0) (hL : l0.length ≤ 1000000000) :
    CallsIn Fence.wide n Tryz.prog 66 #[.slice none 0 0, .func (.func 62) #[] #[.pointer (some ⟨Bm, 0, none⟩)]] w fun e w' => ∃ v, e = .returned v ∧ w'.ownsRow w.heap.size 3 1 v l0.length (l0.map encZ) ∧ Below w.heap.size w w' := by
  have h1 : 1 ≤ n := by omega
  have HR := Aside0.mk hr
  clear hr
  refine callsIn_of_wp_marks Tryz.func66 rfl trivial ?_ rfl
  simp only [Tryz.ntmps66, List.size_toArray, List.length_cons, List.length_nil, Nat.reduceAdd, Nat.reduceSub, Array.replicate_succ, Array.replicate_zero, List.push_toArray, List.append_toArray, List.nil_append, List.cons_append]
  gi_wp2
  refine wpIn_rangeFunc ?_
  intro fn hfn
  generalize hsv : Value.func (.func 62) #[] #[.pointer (some ⟨Bm, 0, none⟩)] = sv
  generalize hW0 : w.alloc (.cells #[.slice none 0 0] 25) = W0
  have hs0 : W0.heap.size = w.heap.size + 1 := by rw [← hW0]; simp
  have hv0 : W0.heap[w.heap.size]? = some (.cells #[.slice none 0 0] 25 (0, 0)) := by rw [← hW0]; exact World.alloc_heap_new w _
  have hb0 : Below w.heap.size w W0 := by rw [← hW0]; exact (Below.refl _ w).alloc (Nat.le_refl _) _
  generalize hrec : (AnyZI.apRec Tryz.laysSd_ren fn sv w.heap.size W0.heap.size .ready none : Loop) = rec
  obtain ⟨W1, hW1⟩ : ∃ W1, (W0.alloc (.deferred (some []))).alloc (.loop rec) = W1 := ⟨_, rfl⟩
  have hold : ∀ k, k < W0.heap.size → W1.heap[k]? = W0.heap[k]? := fun k hk => by
    rw [← hW1]; exact (Below.heap_alloc _ _ k (by simp; omega)).trans (Below.heap_alloc _ _ k hk)
  have hb1 : Below w.heap.size w W1 := by rw [← hW1]; exact (hb0.alloc hb0.size _).alloc (by have := hb0.size; simp; omega) _
  have hM : AnyZI.ApAt Tryz.laysSd_ren w fn sv w.heap.size (W0.heap.size + 1) W0.heap.size [] W1 :=
    ⟨⟨_, (hold w.heap.size (by omega)).trans hv0, ⟨rfl, .inl ⟨rfl, rfl⟩⟩, by simp⟩,
     by rw [← hW1, hrec]; have := World.alloc_heap_new (W0.alloc (.deferred (some []))) (.loop rec); rwa [World.size_alloc] at this,
     by rw [← hW1]; exact (Below.heap_alloc _ _ _ (by simp)).trans (World.alloc_heap_new W0 _), hb1⟩
  refine ⟨W0.heap.size + 1, [{ target := .collected W0.heap.size, args := #[] }], W1, { target := .fn (.func 62) #[.pointer (some ⟨Bm, 0, none⟩)], args := #[.func (.yield (W0.heap.size + 1)) #[] #[]] }, W1, 62,
    #[.func (.yield (W0.heap.size + 1)) #[] #[], .pointer (some ⟨Bm, 0, none⟩)], W1, ?_, ?_, ?_, ?_, fun _ => h1, ?_⟩
  · rw [← hW1, ← hrec]; exact run_enterLoop_outer _ _ _ _ _
  · subst hsv; simp [resolve, go_sem]
  · intro f' hf'; trivial
  · have eg := enters_of Tryz.func62 (by kernel_rfl) rfl
    simp [invoke, go_sem, eg]
  · refine (vals_gives (n - 1) (by omega) A0 c0 l0 Bm w hBm hm HR.out hL (W0.heap.size + 1) (AnyZI.ApAt Tryz.laysSd_ren w fn sv w.heap.size (W0.heap.size + 1) W0.heap.size) W1 hb1
      (fun pre x W hJ hl => AnyZI.apYield { Tryz.laysSd with } Fence.wide (n - 1 - 1) w fn hfn _ w.heap.size (W0.heap.size + 1) W0.heap.size (by omega) (by omega) (by omega) (Nat.le_refl _) (by omega) l0.length (by unfold maxLen; omega) (by omega) pre x W hJ hl) (fun pre W h => h.below) hM).mono ?_
    rintro e W2 ⟨⟨v0, rfl⟩, h2⟩
    obtain ⟨v, hv, hrow, hnil⟩ := h2.box
    have hend := run_endLoop (P := Tryz.prog) h2.L (by simp [AnyZI.apRec])
    rw [hrec] at hend
    have hpn : rec.pending = none := by rw [← hrec]; rfl
    obtain ⟨W3, hW3⟩ : ∃ W3, W2.putObj (W0.heap.size + 1) (.loop { rec with state := .exhausted }) = W3 := ⟨_, rfl⟩
    rw [hW3] at hend
    have hg3 : W2.grownBy W3 (some (W0.heap.size + 1)) := by rw [← hW3]; exact grownBy_putObj_a _ _ _
    have hv3 : W3.heap[w.heap.size]? = some (.cells #[v] 25 (0, 0)) := by rw [← hW3]; exact (World.putObj_heap_other (by omega)).trans hv
    have hK3 : W3.heap[W0.heap.size]? = some (.deferred (some [])) := by rw [← hW3]; exact (World.putObj_heap_other (by omega)).trans h2.K
    have hrow3 := hrow.kept hg3 (ownsRow_ne_a hrow h2.L (fun cur e => by cases e))
    have hb3 : Below w.heap.size w W3 := h2.below.grown hg3 h2.below.size (fun k e => by cases e; omega)
    obtain ⟨hc3, hf3⟩ := cell_of_box_a hv3
    clear hW3
    refine ⟨none, W3, hpn ▸ hend, ?_⟩
    gi_wp2
    rw [← hs0]
    refine ⟨by simp, .inl ⟨_, _, rfl, run_takeDeferred hK3, ?_⟩⟩
    exact ⟨_, results_tmp rfl _ _ _, v, rfl, hrow3.kept (grownBy_putObj_a _ _ _) (ownsRow_ne_a hrow3 hK3 (fun cur e => by cases e)), hb3.grown (grownBy_putObj_a _ _ _) hb3.size (fun k e => by cases e; omega)⟩

/-- Numbers in their order, as often as they are there. -/
def sortI (l : List Int) : List Int := l.mergeSort fun x y => decide (x ≤ y)
theorem sortI_perm (l : List Int) : (sortI l).Perm l := List.mergeSort_perm _ _
theorem sortI_len (l : List Int) : (sortI l).length = l.length := (sortI_perm l).length_eq
theorem sortI_up (l : List Int) : (sortI l).Pairwise (· ≤ ·) := by
  have h := List.pairwise_mergeSort (le := fun x y : Int => decide (x ≤ y)) (fun a b c h1 h2 => by simp only [decide_eq_true_eq] at *; omega) (fun a b => by simp only [Bool.or_eq_true, decide_eq_true_eq]; omega) l
  exact h.imp fun h => by simpa using h

set_option maxHeartbeats 1000000 in
set_option maxRecDepth 100000 in
theorem sorted_values (A0 : Option Addr) (c0 : Nat) (l0 : List Int) (Bm : Nat) (w : World) (hBm : Bm < w.heap.size) (hm : w.cell? ⟨Bm, 0, none⟩ = some (.slice A0 l0.length c0)) (hr : Kd.C KI w A0 l0.length l0) (hL : l0.length ≤ 1000000000) :
    Calls Tryz.prog 51 #[.func (.func 62) #[] #[.pointer (some ⟨Bm, 0, none⟩)]] w fun e w' => ∃ v, e = .returned v ∧ Kd.R KI 3 w' w.heap.size AnyB v (sortI l0) ∧ Below w.heap.size w w' := by
  have cC : Calls Tryz.prog 60 #[.func (.func 62) #[] #[.pointer (some ⟨Bm, 0, none⟩)]] w fun e w' => ∃ v, e = .returned v ∧ w'.ownsRow w.heap.size 3 1 v l0.length (l0.map encZ) ∧ Below w.heap.size w w' := by
    have cA := (callsIn_wide (n := 6)).1 (appendSeq_values 6 (by omega) A0 c0 l0 Bm w hBm hm hr hL)
    go_enter Tryz.func60, Tryz.ntmps60
    go_wp2_with (go_at_call 66; refine cA.mono ?_; rintro e w' ⟨v, rfl, hv, hb⟩; have HV := Aside0.mk hv; have HB := Aside0.mk hb; clear hv hb)
    go_ret
    exact ⟨_, rfl, HV.out, HB.out⟩
  go_enter Tryz.func51, Tryz.ntmps51
  go_wp2_with (go_at_call 60; refine cC.mono ?_; rintro e w' ⟨v, rfl, hv, hb⟩; have HV := Aside0.mk hv; have HB := Aside0.mk hb; clear hv hb)
  rcases HV.out.2 with ⟨rfl, hz⟩ | ⟨gb, cap, cur, rfl, hbase, hgb, r1, r2, r3, r4⟩
  · have hss : l0 = [] := List.eq_nil_of_length_eq_zero hz
    subst hss
    go_wp2_with (go_at_call 61; refine (Tryz.slices_Sort_int_none none 0 _).mono ?_; rintro e w2 ⟨rfl, rfl⟩)
    go_ret
    exact ⟨_, rfl, (by rw [show sortI [] = [] from by simp [sortI]]; exact Kd.R_nil KI 3 w2 w.heap.size AnyB), HB.out⟩
  · have hH : Holds (Value.int .i64) w' gb 0 l0.toArray := holds_of_block_i hgb (by simpa using r4)
    have hgl : gb < w'.heap.size := (Array.getElem?_eq_some_iff.1 hgb).1
    have cS := Tryz.slices_Sort_int gb 0 cap l0 w' hH hgl (by omega)
    go_wp2_with (go_at_call 61; refine cS.mono ?_; rintro e w2 ⟨rfl, nn, os, rfl⟩)
    go_ret
    refine ⟨_, rfl, ?_, HB.out.grown (grownBy_sorted_i _) HB.out.size (fun j hj => by cases hj; exact hbase)⟩
    have h := ownsRow_sorted_i (os := os) (n := nn) (ss := l0) (ts := sortI l0) (sortI_len l0) hbase hgb r1 r2 r3
    have := R_of_ints (xs := sortI l0) (w := grow (putRow encZ (Sort.ahead w' nn) gb 0 (sortI l0).toArray) os) (base := w.heap.size) (v := .slice (some ⟨gb, 0, none⟩) l0.length cap) (by rw [sortI_len]; exact h)
    exact this
end Go.Proofs.YtpimooejnpdlpaaGreatDoor.G

set_option linter.unusedVariables false
set_option linter.unusedSimpArgs false
namespace Go.Proofs.YtpimooejnpdlpaaGreatDoor.G
open Go.RowKit Go.Sort Go.Shelf Go.Proofs.YtpimooejnpdlpaaGreatDoorW.PrintWords Go.Proofs.YtpimooejnpdlpaaGreatDoorW.PrintLast Go.Proofs.YtpimooejnpdlpaaGreatDoorW.PrintMore

theorem R_ints {w : World} {base : Nat} {v : Value} {xs : List Int} (h : Kd.R KI 3 w base AnyB v xs) : w.ownsRow base 3 1 v xs.length (xs.map encZ) := by
  obtain ⟨_, inner, ho, hl, hr⟩ := h
  have hl' : inner.length = xs.length := by rw [hl]; exact Nat.mul_one _
  have : inner = xs.map encZ := by
    refine List.ext_getElem (by simp [hl']) fun j h1 h2 => ?_
    have hj : j < xs.length := by omega
    have h3 : (inner.drop (j * 1)).take 1 = [encZ xs[j]] := hr j xs[j] (List.getElem?_eq_getElem hj)
    rw [Nat.mul_one, List.drop_eq_getElem_cons h1] at h3
    simp only [List.take_succ_cons, List.take_zero, List.cons.injEq, and_true] at h3
    simpa using h3
  rw [← this]; exact ho

theorem compactI_any (base : Nat) (v : Value) (zs : List Int) (w : World) (h : Kd.R KI 3 w base AnyB v zs) (hm : zs.length ≤ 1000000000) :
    Calls Tryz.prog 50 #[v] w fun e w' => ∃ v', e = .returned v' ∧ Kd.R KI 3 w' base AnyB v' (Lib.compact zs) ∧ Below base w w' := by
  rcases (R_ints h).2 with ⟨rfl, hz⟩ | ⟨g, cap, cur, rfl, hbase, hgb, r1, r2, r3, r4⟩
  · have hss : zs = [] := List.eq_nil_of_length_eq_zero hz
    subst hss
    refine (Tryz.slices_Compact_int_empty none 0 w).mono ?_
    rintro e w' ⟨rfl, rfl⟩
    exact ⟨_, rfl, Kd.R_nil _ _ _ _ _, Below.refl _ _⟩
  · have hH : Holds (Value.int .i64) w g 0 zs.toArray := holds_of_block_i hgb (by simpa using r4)
    refine (Tryz.slices_Compact_int g 0 cap zs w hH (by omega) r1).mono ?_
    rintro e w' ⟨rfl, q, rfl⟩
    have hcl := Lib.compact_length_le zs
    generalize Lib.compact zs = cs at *
    obtain ⟨ts, hts⟩ : ∃ ts, ts = cs ++ List.replicate (zs.length - cs.length) 0 := ⟨_, rfl⟩
    have htl : ts.length = zs.length := by rw [hts]; simp; omega
    rw [← hts]
    have hgrow : ∀ W : World, grow W #[] = W := fun W => by simp [grow]
    have ho := ownsRow_sorted_i (n := q) (os := #[]) htl hbase hgb r1 r2 r3
    have hg := grownBy_sorted_i (w := w) (g := g) (n := q) (os := #[]) ts.toArray
    rw [hgrow] at ho hg
    refine ⟨_, rfl, R_of_ints ?_, (Below.refl base w).grown hg (Nat.le_trans hbase (Nat.le_of_lt (Array.getElem?_eq_some_iff.1 hgb).1)) (fun j hj => by cases hj; exact hbase)⟩
    rcases ho.2 with ⟨e, _⟩ | ⟨g', cap', cur', e, hbase', hgb', s1, s2, s3, s4⟩
    · cases e
    · injection e with e1 e2 e3
      injection e1 with e1
      injection e1 with e1
      subst e1; subst e3
      refine ⟨by simp, .inr ⟨g, cap, cur', rfl, hbase, hgb', Nat.le_trans hcl r1, s2, s3, ?_⟩⟩
      have h5 := congrArg (List.take cs.length) s4
      rw [List.take_take, Nat.mul_one, Nat.min_eq_left hcl] at h5
      rw [Nat.mul_one, h5, ← List.map_take, hts]
      simp

/-- Behind the sort: each number once, rising. -/
theorem compactUpTo_up (zs : List Int) (hs : zs.Pairwise (· ≤ ·)) (m : Nat) (hm : m ≤ zs.length) : (Lib.compactUpTo zs.toArray m).Pairwise (· < ·) ∧ ∀ x, x ∈ Lib.compactUpTo zs.toArray m ↔ x ∈ zs.take m := by
  induction m with
  | zero => simp [Lib.compactUpTo]
  | succ m ih =>
    obtain ⟨h1, h2⟩ := ih (by omega)
    have hlt : m < zs.length := by omega
    have hget : zs.toArray[m]! = zs[m] := by simp [hlt]
    rw [Lib.compactUpTo_succ, List.take_succ_eq_append_getElem hlt]
    by_cases hk : m = 0 ∨ zs.toArray[m]! ≠ zs.toArray[m - 1]!
    · have hkb : Lib.keeps zs.toArray m = true := decide_eq_true hk
      rw [if_pos hkb, hget]
      refine ⟨List.pairwise_append.2 ⟨h1, List.pairwise_singleton _ _, fun x hx y hy => ?_⟩, fun x => by simp only [List.mem_append, h2]⟩
      rw [List.mem_singleton.1 hy]
      obtain ⟨j, hj, rfl⟩ := List.mem_take_iff_getElem.1 ((h2 x).1 hx)
      have hjm : j < m := by omega
      have hm0 : m ≠ 0 := by omega
      have hget' : zs.toArray[m - 1]! = zs[m - 1] := by simp [show m - 1 < zs.length by omega]
      have hne : zs[m] ≠ zs[m - 1] := by
        rcases hk with hk | hk
        · exact absurd hk hm0
        · rwa [hget, hget'] at hk
      have hle : ∀ a b (ha : a < zs.length) (hb : b < zs.length), a ≤ b → zs[a] ≤ zs[b] := fun a b ha hb hab => by
        rcases Nat.lt_or_ge a b with h | h
        · exact List.pairwise_iff_getElem.1 hs a b ha hb h
        · have : a = b := by omega
          subst this; exact Int.le_refl _
      have a1 := hle j (m - 1) (by omega) (by omega) (by omega)
      have a2 := hle (m - 1) m (by omega) hlt (by omega)
      omega
    · have hkb : Lib.keeps zs.toArray m = false := decide_eq_false hk
      have hm0 : 0 < m := by omega
      have heq : zs.toArray[m]! = zs.toArray[m - 1]! := by
        by_cases e : zs.toArray[m]! = zs.toArray[m - 1]!
        · exact e
        · exact absurd (.inr e) hk
      have hget' : zs.toArray[m - 1]! = zs[m - 1] := by simp [show m - 1 < zs.length by omega]
      rw [hget, hget'] at heq
      rw [if_neg (by simp [hkb]), List.append_nil]
      refine ⟨h1, fun x => ?_⟩
      rw [h2]
      simp only [List.mem_append, List.mem_singleton]
      refine ⟨.inl, fun h => h.elim id fun e => ?_⟩
      rw [e, heq]
      exact List.mem_take_iff_getElem.2 ⟨m - 1, by omega, rfl⟩

/-- A row's numbers, each once, rising. -/
def uniqI (l : List Int) : List Int := Lib.compact (sortI l)
theorem uniqI_spec (l : List Int) : (uniqI l).Pairwise (· < ·) ∧ ∀ x, x ∈ uniqI l ↔ x ∈ l := by
  have h := compactUpTo_up (sortI l) (sortI_up l) (sortI l).length (Nat.le_refl _)
  rw [List.take_length] at h
  exact ⟨h.1, fun x => (h.2 x).trans (sortI_perm l).mem_iff⟩
theorem uniqI_len (l : List Int) : (uniqI l).length ≤ l.length := by have := Lib.compact_length_le (sortI l); rw [sortI_len] at this; exact this
end Go.Proofs.YtpimooejnpdlpaaGreatDoor.G
