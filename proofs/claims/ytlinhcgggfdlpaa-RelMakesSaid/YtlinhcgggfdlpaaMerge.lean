/- tuple.merge: two rows that rise, gone through side by side. -/
import Derived.Test.YtlinhcgggfdlpaaRead2
import Derived.OneCell
set_option linter.unusedVariables false
set_option linter.unusedSimpArgs false
namespace Go.Proofs.Ytlinhcgggfdlpaa.G
open Go.RowKit Go.Proofs.YtlinhcgggfdlpaaW.PrintWords Go.Proofs.YtlinhcgggfdlpaaW.PrintLast Go.Proofs.YtlinhcgggfdlpaaW.PrintMore

theorem cell_of_blk1 {W : World} {g e : Nat} {v : Value} (h : W.heap[g]? = some (.cells #[v] e (0, 0))) : W.cell? ⟨g, 0, none⟩ = some v := by rw [cell_of_row W g 0 _ _ _ h]; rfl
theorem frozen_of_blk {W : World} {g e i : Nat} {cs : Array Value} (h : W.heap[g]? = some (.cells cs e (0, 0))) : W.frozen? ⟨g, i, none⟩ = false := by simp [World.frozen?, h]
theorem blk1_set {W : World} {g e : Nat} {v : Value} (h : W.heap[g]? = some (.cells #[v] e (0, 0))) (u : Value) : (W.setCell ⟨g, 0, none⟩ u).heap[g]? = some (.cells #[u] e (0, 0)) := by
  simp [World.setCell, Array.getElem?_modify, h]

/-- A box that holds a row of the call's own. -/
structure Boxed (W : World) (g base : Nat) (xs : List Int) (v : Value) : Prop where
  blk : W.heap[g]? = some (.cells #[v] 22 (0, 0))
  row : Kd.R KI 3 W base AnyB v xs
theorem Boxed.ne {W : World} {g base : Nat} {xs : List Int} {v : Value} (h : Boxed W g base xs v) : some g ≠ v.ownBlock := Kd.R_ne h.row h.blk (by decide)
theorem Boxed.below {W W1 : World} {g base : Nat} {xs : List Int} {v : Value} (h : Boxed W g base xs v) (hb : Below W.heap.size W W1) : Boxed W1 g base xs v :=
  ⟨(hb.block g (Array.getElem?_eq_some_iff.1 h.blk).1).trans h.blk, Kd.R_below h.row hb⟩

/-- What a call leaves: the box holds a row. -/
def BoxedTo (W w' : World) (g base : Nat) (xs : List Int) : Prop := ∃ v', Boxed w' g base xs v' ∧ Below g W w'

set_option maxHeartbeats 1000000 in
set_option maxRecDepth 100000 in
theorem merge1_any (is : Bool) (n : Int) (g base : Nat) (xs : List Int) (v : Value) (W : World) (hB : Boxed W g base xs v) (h0 : g ≤ base) (h1 : base ≤ W.heap.size) (hl : xs.length < 17592186044416) :
    Calls Try.prog 76 #[.bool is, .int .i64 n, .pointer (some ⟨g, 0, none⟩)] W fun e w' => e = .returned (.tuple #[]) ∧ BoxedTo W w' g base (if is then xs ++ [n] else xs) := by
  have HB := Aside0.mk hB
  clear hB
  cases is
  · go_enter Try.func76, Try.ntmps76
    go_wp2
    go_end0
    exact ⟨rfl, v, HB.out, Below.refl _ _⟩
  · have hc := cell_of_blk1 HB.out.blk
    go_enter Try.func76, Try.ntmps76
    go_wp2_with (at_builtin; refine app_int (w := W) base rfl (.tmp 6) (.tmp 8) rfl v xs n rfl rfl ⟨HB.out.row⟩ ⟨Below.refl _ _⟩ h1 hl ?_; intro v1 w1 HO HBB HG; have hb1 : w1.heap[g]? = _ := (HG.out.block g (Array.getElem?_eq_some_iff.1 HB.out.blk).1 HB.out.ne).trans HB.out.blk; have hc1 := cell_of_blk1 hb1; have hf1 := frozen_of_blk (i := 0) hb1; have HB1 := Aside0.mk hb1; clear hb1; obtain ⟨A1, c1, rfl, _, _⟩ := Kd.R_reads HO.out; simp only [List.length_append, List.length_singleton] at HO)
    go_end0
    refine ⟨rfl, _, ⟨blk1_set HB1.out _, Kd.R_set HO.out HB1.out (fun q hq => ?_) 0 _⟩, (HBB.out.mono h0).setCell (Nat.le_refl _) _⟩
    rcases List.mem_cons.1 hq with e | e
    · subst e; decide
    · exact absurd e (by simp [KI, Kd.int, Kd.scalar])

/-- What is kept of two rows: of the first alone, of both, of the second alone. -/
def merge (f b s : Bool) : List Int → List Int → List Int
  | [], [] => []
  | x :: l, [] => (if f then [x] else []) ++ merge f b s l []
  | [], y :: m => (if s then [y] else []) ++ merge f b s [] m
  | x :: l, y :: m => if x < y then (if f then [x] else []) ++ merge f b s l (y :: m) else if y < x then (if s then [y] else []) ++ merge f b s (x :: l) m else (if b then [x] else []) ++ merge f b s l m
  termination_by l m => l.length + m.length

theorem merge_nn (f b s : Bool) : merge f b s [] [] = [] := by unfold merge; rfl
theorem merge_ln (f b s : Bool) (m : List Int) (h : 1 ≤ m.length) : merge f b s m [] = (if f then [rd m 0] else []) ++ merge f b s (m.drop 1) [] := by
  cases m with
  | nil => simp at h
  | cons x l => conv => lhs; unfold merge
                rfl
theorem merge_nr (f b s : Bool) (m : List Int) (h : 1 ≤ m.length) : merge f b s [] m = (if s then [rd m 0] else []) ++ merge f b s [] (m.drop 1) := by
  cases m with
  | nil => simp at h
  | cons x l => conv => lhs; unfold merge
                rfl
theorem merge_lt (f b s : Bool) (l m : List Int) (hl : 1 ≤ l.length) (hm : 1 ≤ m.length) (h : rd l 0 < rd m 0) : merge f b s l m = (if f then [rd l 0] else []) ++ merge f b s (l.drop 1) m := by
  cases l with
  | nil => simp at hl
  | cons x l => cases m with
    | nil => simp at hm
    | cons y m =>
      have h' : x < y := h
      conv => lhs; unfold merge
      rw [if_pos h']; rfl
theorem merge_gt (f b s : Bool) (l m : List Int) (hl : 1 ≤ l.length) (hm : 1 ≤ m.length) (h : rd m 0 < rd l 0) : merge f b s l m = (if s then [rd m 0] else []) ++ merge f b s l (m.drop 1) := by
  cases l with
  | nil => simp at hl
  | cons x l => cases m with
    | nil => simp at hm
    | cons y m =>
      have h' : y < x := h
      conv => lhs; unfold merge
      rw [if_neg (by omega), if_pos h']; rfl
theorem merge_eq (f b s : Bool) (l m : List Int) (hl : 1 ≤ l.length) (hm : 1 ≤ m.length) (h1 : ¬ rd l 0 < rd m 0) (h2 : ¬ rd m 0 < rd l 0) : merge f b s l m = (if b then [rd l 0] else []) ++ merge f b s (l.drop 1) (m.drop 1) := by
  cases l with
  | nil => simp at hl
  | cons x l => cases m with
    | nil => simp at hm
    | cons y m =>
      have h1' : ¬ x < y := h1
      have h2' : ¬ y < x := h2
      conv => lhs; unfold merge
      rw [if_neg h1', if_neg h2']; rfl

def slLen : Value → Nat
  | .slice _ n _ => n
  | _ => 0
/-- Between two rounds: what is kept, and what is to come. -/
structure MergeRel (f b s : Bool) (l0 l1 : List Int) (w W : World) (B0 B1 : Option Addr) (m0 m1 out : List Int) (v : Value) : Prop where
  c0 : Kd.C KI w B0 m0.length m0
  c1 : Kd.C KI w B1 m1.length m1
  val : out ++ merge f b s m0 m1 = merge f b s l0 l1
  num : out.length + m0.length + m1.length ≤ 1000000000
  box : Boxed W w.heap.size w.heap.size out v
  bel : Below w.heap.size w W
theorem MergeRel.lt {f b s : Bool} {l0 l1 : List Int} {w W : World} {B0 B1 : Option Addr} {m0 m1 out : List Int} {v : Value} (h : MergeRel f b s l0 l1 w W B0 B1 m0 m1 out v) : w.heap.size ≤ W.heap.size := h.bel.size
/-- One more is kept, or not. -/
theorem MergeRel.next {f b s : Bool} {l0 l1 : List Int} {w W W1 : World} {B0 B1 B0' B1' : Option Addr} {m0 m1 m0' m1' out : List Int} {v : Value} (is : Bool) (n : Int) (h : MergeRel f b s l0 l1 w W B0 B1 m0 m1 out v)
    (hc0 : Kd.C KI w B0' m0'.length m0') (hc1 : Kd.C KI w B1' m1'.length m1') (hv : merge f b s m0 m1 = (if is then [n] else []) ++ merge f b s m0' m1') (hn : m0'.length + m1'.length < m0.length + m1.length)
    (hb : BoxedTo W W1 w.heap.size w.heap.size (if is then out ++ [n] else out)) : ∃ out' v', MergeRel f b s l0 l1 w W1 B0' B1' m0' m1' out' v' := by
  obtain ⟨v', hbx, hbl⟩ := hb
  refine ⟨_, v', hc0, hc1, ?_, ?_, hbx, h.bel.trans hbl⟩
  · rw [← h.val, hv]
    cases is <;> simp
  · have := h.num
    cases is <;> simp <;> omega
theorem MergeRel.drew {f b s : Bool} {l0 l1 : List Int} {w W : World} {B0 B1 : Option Addr} {m0 m1 out : List Int} {v : Value} (h : MergeRel f b s l0 l1 w W B0 B1 m0 m1 out v) (n : Nat) : MergeRel f b s l0 l1 w (W.drewN n) B0 B1 m0 m1 out v :=
  ⟨h.c0, h.c1, h.val, h.num, h.box.below (pw_below_drewN (Below.refl _ _) _), pw_below_drewN h.bel _⟩
theorem MergeRel.keep {f b s : Bool} {l0 l1 : List Int} {w W : World} {B0 B1 : Option Addr} {m0 m1 out : List Int} {v : Value} (h : MergeRel f b s l0 l1 w W B0 B1 m0 m1 out v) (is : Bool) (n : Int) :
    Calls Try.prog 76 #[.bool is, .int .i64 n, .pointer (some ⟨w.heap.size, 0, none⟩)] W fun e w' => e = .returned (.tuple #[]) ∧ BoxedTo W w' w.heap.size w.heap.size (if is then out ++ [n] else out) :=
  merge1_any is n _ _ out v W h.box (Nat.le_refl _) h.lt (by have := h.num; omega)

set_option maxHeartbeats 2000000 in
set_option maxRecDepth 100000 in
theorem merge_any (A0 : Option Addr) (c0 : Nat) (l0 : List Int) (A1 : Option Addr) (c1 : Nat) (l1 : List Int) (f b s : Bool) (w : World) (hr0 : Kd.C KI w A0 l0.length l0) (hc0 : l0.length ≤ c0) (hr1 : Kd.C KI w A1 l1.length l1) (hc1 : l1.length ≤ c1) (hm : l0.length + l1.length ≤ 1000000000) :
    Calls Try.prog 70 #[.slice A0 l0.length c0, .slice A1 l1.length c1, .bool f, .bool b, .bool s] w fun e w' => ∃ v, e = .returned v ∧ Kd.R KI 3 w' w.heap.size AnyB v (merge f b s l0 l1) ∧ Below w.heap.size w w' := by
  have HR0 := Aside0.mk hr0
  have HR1 := Aside0.mk hr1
  have HM := Aside0.mk hm
  have HC0 := Aside0.mk hc0
  have HC1 := Aside0.mk hc1
  clear hr0 hr1 hc0 hc1
  go_enter Try.func70, Try.ntmps70
  go_wp2
  have hB0 : MergeRel f b s l0 l1 w (w.alloc (.cells #[.slice none 0 0] 22)) A0 A1 l0 l1 [] (.slice none 0 0) :=
    ⟨HR0.out, HR1.out, rfl, by have := HM.out; simp; omega, ⟨heap_alloc_new w _, Kd.R_nil _ _ _ _ _⟩, below_alloc (Below.refl _ _) _⟩
  have HS := Aside0.mk hB0
  clear hB0
  go_loopw [0, 1] (fun v0 v1 W => ∃ (B0 B1 : Option Addr) (d0 d1 : Nat) (m0 m1 out : List Int) (v : Value), v0 = .slice B0 m0.length d0 ∧ v1 = .slice B1 m1.length d1 ∧ m0.length ≤ d0 ∧ m1.length ≤ d1 ∧ Aside0 (MergeRel f b s l0 l1 w W B0 B1 m0 m1 out v)) (fun v0 v1 _ => slLen v0 + slLen v1)
  case atStart => exact ⟨A0, A1, c0, c1, l0, l1, [], _, rfl, rfl, HC0.out, HC1.out, HS⟩
  case round =>
    obtain ⟨B0, B1, d0, d1, m0, m1, out, v, rfl, rfl, hd0, hd1, HT⟩ := hrel
    have hnum : m0.length + m1.length ≤ 1000000000 := by have := HT.out.num; omega
    by_cases h0 : 1 ≤ m0.length
    · obtain ⟨ad0, rfl, hx⟩ := at_int' HT.out.c0 HT.out.bel 0 (by omega) (by omega)
      simp only [Int.toNat_zero, Addr.add_zero'] at hx
      obtain ⟨B0', hcut0, hC0', hl0'⟩ := cut1 (some ad0) d0 m0 h0 hd0
      have HC0' := Aside0.mk (hC0' w HT.out.c0)
      have hdl0 : (m0.drop 1).length < m0.length := by rw [List.length_drop]; omega
      have z0 : ((m0.length : Int) == 0) = false := by rw [beq_eq_false_iff_ne]; omega
      have p0 : (0 : Int) < (m0.length : Int) := by omega
      have p0n : 0 < m0.length := h0
      have p0d : decide ((0 : Int) < (m0.length : Int)) = true := decide_eq_true p0
      clear hC0'
      by_cases h1 : 1 ≤ m1.length
      · obtain ⟨ad1, rfl, hy⟩ := at_int' HT.out.c1 HT.out.bel 0 (by omega) (by omega)
        simp only [Int.toNat_zero, Addr.add_zero'] at hy
        obtain ⟨B1', hcut1, hC1', hl1'⟩ := cut1 (some ad1) d1 m1 h1 hd1
        have HC1' := Aside0.mk (hC1' w HT.out.c1)
        have hdl1 : (m1.drop 1).length < m1.length := by rw [List.length_drop]; omega
        have z1 : ((m1.length : Int) == 0) = false := by rw [beq_eq_false_iff_ne]; omega
        have p1 : (0 : Int) < (m1.length : Int) := by omega
        have p1n : 0 < m1.length := h1
        have p1d : decide ((0 : Int) < (m1.length : Int)) = true := decide_eq_true p1
        clear hC1'
        by_cases hlt : rd m0 0 < rd m1 0
        · have HV := Aside0.mk (merge_lt f b s m0 m1 h0 h1 hlt)
          go_wp2_with fail
          go_quiet (fail)
          have HTd := Aside0.mk (HT.out.drew nq)
          go_wp2_with (go_at_call 76; refine (HTd.out.keep f _).mono ?_; rintro e w' ⟨rfl, hto⟩; have HTO := Aside0.mk hto; clear hto)
          go_roundw
          case measure => simp [slLen]; omega
          case rel =>
            obtain ⟨out', v', h⟩ := HTd.out.next f (rd m0 0) HC0'.out HTd.out.c1 HV.out (by omega) HTO.out
            exact ⟨_, _, _, _, _, _, out', v', by simp only [List.length_drop], by simp only [List.length_drop], hl0', hd1, ⟨h⟩⟩
        · by_cases hgt : rd m1 0 < rd m0 0
          · have HV := Aside0.mk (merge_gt f b s m0 m1 h0 h1 hgt)
            go_wp2_with fail
            go_quiet (fail)
            have HTa := Aside0.mk (HT.out.drew nq)
            have hx2 : (wr.drewN nq).cell? ad0 = _ := hx
            have hy2 : (wr.drewN nq).cell? ad1 = _ := hy
            clear hx hy
            generalize wr.drewN nq = Wa at HTa hx2 hy2 ⊢
            go_wp2_with fail
            go_quiet (fail)
            have HTd := Aside0.mk (HTa.out.drew nq)
            go_wp2_with (go_at_call 76; refine (HTd.out.keep s _).mono ?_; rintro e w' ⟨rfl, hto⟩; have HTO := Aside0.mk hto; clear hto)
            go_roundw
            case measure => simp [slLen]; omega
            case rel =>
              obtain ⟨out', v', h⟩ := HTd.out.next s (rd m1 0) HTd.out.c0 HC1'.out HV.out (by omega) HTO.out
              exact ⟨_, _, _, _, _, _, out', v', by simp only [List.length_drop], by simp only [List.length_drop], hd0, hl1', ⟨h⟩⟩
          · have HV := Aside0.mk (merge_eq f b s m0 m1 h0 h1 hlt hgt)
            go_wp2_with fail
            go_quiet (fail)
            have HTa := Aside0.mk (HT.out.drew nq)
            have hx2 : (wr.drewN nq).cell? ad0 = _ := hx
            have hy2 : (wr.drewN nq).cell? ad1 = _ := hy
            clear hx hy
            generalize wr.drewN nq = Wa at HTa hx2 hy2 ⊢
            go_wp2_with fail
            go_quiet (fail)
            have HTd := Aside0.mk (HTa.out.drew nq)
            go_wp2_with (go_at_call 76; refine (HTd.out.keep b _).mono ?_; rintro e w' ⟨rfl, hto⟩; have HTO := Aside0.mk hto; clear hto)
            generalize w' = wo at HTO ⊢
            go_wp2_with fail
            go_quiet (fail)
            go_wp2_with fail
            go_roundw
            case measure => simp [slLen]; omega
            case rel =>
              obtain ⟨out', v', h⟩ := HTd.out.next b (rd m0 0) HC0'.out HC1'.out HV.out (by omega) HTO.out
              refine ⟨_, _, _, _, m0.drop 1, m1.drop 1, out', v', ?_, ?_, hl0', hl1', ⟨h.drew _⟩⟩
              · simp only [List.length_drop]
              · simp only [List.length_drop]
      · have HV := Aside0.mk (show merge f b s m0 m1 = (if f then [rd m0 0] else []) ++ merge f b s (m0.drop 1) m1 from by rw [List.eq_nil_of_length_eq_zero (show m1.length = 0 by omega)]; exact merge_ln f b s m0 h0)
        have z1 : ((m1.length : Int) == 0) = true := by rw [beq_iff_eq]; omega
        go_wp2_with fail
        go_quiet (fail)
        have HTd := Aside0.mk (HT.out.drew nq)
        go_wp2_with (go_at_call 76; refine (HTd.out.keep f _).mono ?_; rintro e w' ⟨rfl, hto⟩; have HTO := Aside0.mk hto; clear hto)
        go_roundw
        case measure => simp [slLen]; omega
        case rel =>
          obtain ⟨out', v', h⟩ := HTd.out.next f (rd m0 0) HC0'.out HTd.out.c1 HV.out (by omega) HTO.out
          exact ⟨_, _, _, _, _, _, out', v', by simp only [List.length_drop], by simp only [List.length_drop], hl0', hd1, ⟨h⟩⟩
    · have z0 : ((m0.length : Int) == 0) = true := by rw [beq_iff_eq]; omega
      have p0 : ¬ (0 : Int) < (m0.length : Int) := by omega
      have p0d : decide ((0 : Int) < (m0.length : Int)) = false := decide_eq_false p0
      have p0e : decide (0 < m0.length) = false := decide_eq_false h0
      by_cases h1 : 1 ≤ m1.length
      · obtain ⟨ad1, rfl, hy⟩ := at_int' HT.out.c1 HT.out.bel 0 (by omega) (by omega)
        simp only [Int.toNat_zero, Addr.add_zero'] at hy
        obtain ⟨B1', hcut1, hC1', hl1'⟩ := cut1 (some ad1) d1 m1 h1 hd1
        have HC1' := Aside0.mk (hC1' w HT.out.c1)
        have hdl1 : (m1.drop 1).length < m1.length := by rw [List.length_drop]; omega
        have z1 : ((m1.length : Int) == 0) = false := by rw [beq_eq_false_iff_ne]; omega
        have p1 : (0 : Int) < (m1.length : Int) := by omega
        have p1n : 0 < m1.length := h1
        have p1d : decide ((0 : Int) < (m1.length : Int)) = true := decide_eq_true p1
        clear hC1'
        have HV := Aside0.mk (show merge f b s m0 m1 = (if s then [rd m1 0] else []) ++ merge f b s m0 (m1.drop 1) from by rw [List.eq_nil_of_length_eq_zero (show m0.length = 0 by omega)]; exact merge_nr f b s m1 h1)
        go_wp2_with fail
        go_quiet (fail)
        have HTa := Aside0.mk (HT.out.drew nq)
        have hy2 : (wr.drewN nq).cell? ad1 = _ := hy
        clear hy
        generalize wr.drewN nq = Wa at HTa hy2 ⊢
        go_wp2_with fail
        go_quiet (fail)
        have HTd := Aside0.mk (HTa.out.drew nq)
        go_wp2_with (go_at_call 76; refine (HTd.out.keep s _).mono ?_; rintro e w' ⟨rfl, hto⟩; have HTO := Aside0.mk hto; clear hto)
        go_roundw
        case measure => simp [slLen]; omega
        case rel =>
          obtain ⟨out', v', h⟩ := HTd.out.next s (rd m1 0) HTd.out.c0 HC1'.out HV.out (by omega) HTO.out
          exact ⟨_, _, _, _, _, _, out', v', by simp only [List.length_drop], by simp only [List.length_drop], hd0, hl1', ⟨h⟩⟩
      · have z1 : ((m1.length : Int) == 0) = true := by rw [beq_iff_eq]; omega
        have p1 : ¬ (0 : Int) < (m1.length : Int) := by omega
        have p1d : decide ((0 : Int) < (m1.length : Int)) = false := decide_eq_false p1
        have p1e : decide (0 < m1.length) = false := decide_eq_false h1
        have hval : Aside0 (out = merge f b s l0 l1) := ⟨by
          have h := HT.out.val
          rw [List.eq_nil_of_length_eq_zero (show m0.length = 0 by omega), List.eq_nil_of_length_eq_zero (show m1.length = 0 by omega), merge_nn, List.append_nil] at h
          exact h⟩
        have hcb := cell_of_blk1 HT.out.box.blk
        have hfb := frozen_of_blk (i := 0) HT.out.box.blk
        obtain ⟨A2, c2, rfl, _, _⟩ := Kd.R_reads HT.out.box.row
        have hcs := cell_of_blk1 (blk1_set HT.out.box.blk (.slice A2 out.length c2))
        have hrow : Kd.R KI 3 (wr.setCell ⟨w.heap.size, 0, none⟩ (.slice A2 out.length c2)) w.heap.size AnyB (.slice A2 out.length c2) out := Kd.R_set HT.out.box.row HT.out.box.blk (fun q hq => by
          rcases List.mem_cons.1 hq with e | e
          · subst e; decide
          · exact absurd e (by simp [KI, Kd.int, Kd.scalar])) 0 _
        have hbel := HT.out.bel.setCell (p := ⟨w.heap.size, 0, none⟩) (Nat.le_refl _) (.slice A2 out.length c2)
        have HW := Aside0.mk (And.intro hrow hbel)
        clear hrow hbel
        go_wp2_with fail
        refine bodyPost_ret (v := .slice A2 out.length c2) (by simp [results, Try.results70, go_sem, hcs]) rfl ?_
        exact ⟨_, rfl, hval.out ▸ HW.out.1, HW.out.2⟩
end Go.Proofs.Ytlinhcgggfdlpaa.G

set_option linter.unusedVariables false
set_option linter.unusedSimpArgs false
namespace Go.Proofs.Ytlinhcgggfdlpaa.G
open Go.RowKit Go.Proofs.YtlinhcgggfdlpaaW.PrintWords Go.Proofs.YtlinhcgggfdlpaaW.PrintLast Go.Proofs.YtlinhcgggfdlpaaW.PrintMore

theorem tuple_Meet_any (A0 : Option Addr) (c0 : Nat) (l0 : List Int) (A1 : Option Addr) (c1 : Nat) (l1 : List Int) (w : World) (hr0 : Kd.C KI w A0 l0.length l0) (hc0 : l0.length ≤ c0) (hr1 : Kd.C KI w A1 l1.length l1) (hc1 : l1.length ≤ c1) (hm : l0.length + l1.length ≤ 1000000000) :
    Calls Try.prog 54 #[.slice A0 l0.length c0, .slice A1 l1.length c1] w fun e w' => ∃ v, e = .returned v ∧ Kd.R KI 3 w' w.heap.size AnyB v (merge false true false l0 l1) ∧ Below w.heap.size w w' := by
  have HR0 := Aside0.mk hr0
  have HR1 := Aside0.mk hr1
  have HM := Aside0.mk hm
  clear hr0 hr1 hm
  go_enter Try.func54, Try.ntmps54
  go_wp2_with (go_at_call 70; refine (merge_any A0 c0 l0 A1 c1 l1 false true false w HR0.out hc0 HR1.out hc1 HM.out).mono ?_; rintro e w' ⟨v, rfl, hv, hb⟩; have HV := Aside0.mk hv; have HB := Aside0.mk hb; clear hv hb)
  go_ret
  exact ⟨_, rfl, HV.out, HB.out⟩
end Go.Proofs.Ytlinhcgggfdlpaa.G
