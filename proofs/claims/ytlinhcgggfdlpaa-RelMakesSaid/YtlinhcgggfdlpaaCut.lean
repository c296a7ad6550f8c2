/- rel.cut: rows over another scheme. -/
import Derived.Test.YtlinhcgggfdlpaaTSort
import Derived.Test.YtlinhcgggfdlpaaPick
set_option linter.unusedVariables false
set_option linter.unusedSimpArgs false
namespace Go.Proofs.Ytlinhcgggfdlpaa.G
open Go.RowKit Go.Proofs.YtlinhcgggfdlpaaW.PrintWords Go.Proofs.YtlinhcgggfdlpaaW.PrintLast Go.Proofs.YtlinhcgggfdlpaaW.PrintMore

theorem blk2_c0 {W : World} {g t : Nat} {a b : Value} (h : W.heap[g]? = some (.cells #[a, b] t (0, 0))) : W.cell? ⟨g, 0, none⟩ = some a := by rw [cell_of_row W g 0 _ _ _ h]; rfl
theorem blk2_c1 {W : World} {g t : Nat} {a b : Value} (h : W.heap[g]? = some (.cells #[a, b] t (0, 0))) : W.cell? ⟨g, 1, none⟩ = some b := by rw [cell_of_row W g 1 _ _ _ h]; rfl
theorem blk_fr {W : World} {g t i : Nat} {cs : Array Value} (h : W.heap[g]? = some (.cells cs t (0, 0))) : W.frozen? ⟨g, i, none⟩ = false := by simp [World.frozen?, h]
theorem blk2_s0 {W : World} {g t : Nat} {a b : Value} (h : W.heap[g]? = some (.cells #[a, b] t (0, 0))) (u : Value) : (W.setCell ⟨g, 0, none⟩ u).heap[g]? = some (.cells #[u, b] t (0, 0)) := blk_set1 h 0 u
theorem blk2_s1 {W : World} {g t : Nat} {a b : Value} (h : W.heap[g]? = some (.cells #[a, b] t (0, 0))) (u : Value) : (W.setCell ⟨g, 1, none⟩ u).heap[g]? = some (.cells #[a, u] t (0, 0)) := blk_set1 h 1 u

/-- A relation that is read: a scheme, and rows. -/
def RelC (w : World) (v : Value) (r : List Int × List (List Int)) : Prop :=
  ∃ A0 c0 A1 c1, v = .agg #[.slice A0 r.1.length c0, .slice A1 r.2.length c1] ∧ r.1.length ≤ c0 ∧ r.2.length ≤ c1 ∧ Kd.C KI w A0 r.1.length r.1 ∧ Kd.C KL w A1 r.2.length r.2
theorem RelC.below {w w1 : World} {v : Value} {r : List Int × List (List Int)} (h : RelC w v r) (hb : Below w.heap.size w w1) : RelC w1 v r := by
  obtain ⟨A0, c0, A1, c1, e, h0, h1, h2, h3⟩ := h
  exact ⟨A0, c0, A1, c1, e, h0, h1, Kd.C_below h2 hb, Kd.C_below h3 hb⟩

/-- A relation of the call's own. -/
def RelM (w : World) (base : Nat) (v : Value) (r : List Int × List (List Int)) : Prop :=
  ∃ s0 s1, v = .agg #[s0, s1] ∧ Kd.R KI 3 w base (fun k => base ≤ k) s0 r.1 ∧ Kd.N KL 22 w base (fun k => base ≤ k) s1 r.2
theorem RelM.reads {w : World} {base : Nat} {v : Value} {r : List Int × List (List Int)} (h : RelM w base v r) : RelC w v r := by
  obtain ⟨s0, s1, rfl, h0, h1⟩ := h
  obtain ⟨A, c, rfl, hl, hr⟩ := Kd.R_reads h0
  obtain ⟨A', c', rfl, hl', hr'⟩ := Kd.N_reads h1
  exact ⟨A, c, A', c', rfl, hl, hl', hr, hr'⟩
theorem RelM.lower {w : World} {base base' : Nat} {v : Value} {r : List Int × List (List Int)} (h : RelM w base v r) (hb : base' ≤ base) : RelM w base' v r := by
  obtain ⟨s0, s1, rfl, h0, h1⟩ := h
  exact ⟨s0, s1, rfl, Kd.R_mono (Kd.R_lower h0 hb) (fun k hk => Nat.le_trans hb hk), Kd.N_mono (Kd.N_lower h1 hb) (fun k hk => Nat.le_trans hb hk)⟩
theorem RelM.below {w w1 : World} {base : Nat} {v : Value} {r : List Int × List (List Int)} (h : RelM w base v r) (hb : Below w.heap.size w w1) : RelM w1 base v r := by
  obtain ⟨s0, s1, rfl, h0, h1⟩ := h
  exact ⟨s0, s1, rfl, Kd.R_below h0 hb, Kd.N_below h1 hb⟩
theorem RelM.far {w : World} {base : Nat} {v : Value} {r : List Int × List (List Int)} (h : RelM w base v r) {p : Addr} (hp : p.block < base) (u : Value) : RelM (w.setCell p u) base v r := by
  obtain ⟨s0, s1, rfl, h0, h1⟩ := h
  exact ⟨s0, s1, rfl, Kd.R_far h0 (fun k hk => by have : base ≤ k := hk; omega) u, Kd.N_far h1 (fun k hk => by have : base ≤ k := hk; omega) u⟩
theorem RelM.none_ (w : World) (base : Nat) : RelM w base (.agg #[.slice none 0 0, .slice none 0 0]) ([], []) := ⟨_, _, rfl, Kd.R_nil _ _ _ _ _, Kd.N_nil _ _ _ _ _⟩

def cutRows (sc : List Int) (rows : List (List Int)) (onto : List Int) : List (List Int) := Pl.sortU (rows.map fun t => pick t (onto.map (idx sc)))

/-- The first k numbers of a row stand in block g. -/
structure IntsAt (W : World) (g : Nat) (cur : Array Value) (xs : List Int) (k : Nat) : Prop where
  blk : W.heap[g]? = some (.cells cur 3 (0, 0))
  size : cur.size = xs.length
  at_ : ∀ j, j < k → cur[j]! = .int .i64 (rd xs j)
theorem IntsAt.cell {W : World} {g : Nat} {cur : Array Value} {xs : List Int} {k : Nat} (h : IntsAt W g cur xs k) (j : Nat) (hj : j < xs.length) : W.cell? ⟨g, j, none⟩ = some cur[j]! := by
  rw [cell_of_row W g j cur _ _ h.blk]; simp [h.size, hj]
theorem IntsAt.frozen {W : World} {g : Nat} {cur : Array Value} {xs : List Int} {k : Nat} (h : IntsAt W g cur xs k) (j : Nat) : W.frozen? ⟨g, j, none⟩ = false := by simp [World.frozen?, h.blk]
theorem IntsAt.push {W : World} {g : Nat} {cur : Array Value} {xs : List Int} {k : Nat} (h : IntsAt W g cur xs k) (hk : k < xs.length) : IntsAt (W.setCell ⟨g, k, none⟩ (.int .i64 (rd xs k))) g (cur.setIfInBounds k (.int .i64 (rd xs k))) xs (k + 1) :=
  ⟨blk_set1 h.blk _ _, by rw [Array.size_setIfInBounds]; exact h.size, fun j hj => by
    by_cases e : j = k
    · subst e; exact get_set_eq _ _ _ (by rw [h.size]; exact hk)
    · rw [get_set_ne _ _ _ _ (fun e' => e e'.symm)]; exact h.at_ j (by omega)⟩
theorem IntsAt.row {W : World} {g base : Nat} {cur : Array Value} {xs : List Int} (h : IntsAt W g cur xs xs.length) (hb : base ≤ g) (hm : xs.length ≤ 1000000000) : Kd.R KI 3 W base AnyB (.slice (some ⟨g, 0, none⟩) xs.length xs.length) xs := by
  have hc : cur.toList = xs.map (Value.int .i64) := by
    refine List.ext_getElem (by simp [h.size]) fun j h1 h2 => ?_
    have hj : j < xs.length := by simpa [h.size] using h1
    have := h.at_ j hj
    rw [getElem!_pos cur j (by rw [h.size]; exact hj), rd_get xs j hj] at this
    simpa using this
  refine ⟨fun _ _ => trivial, xs.map (Value.int .i64), ⟨by simp [KI, Kd.int, Kd.scalar], .inr ⟨g, xs.length, cur, rfl, hb, h.blk, Nat.le_refl _, by unfold maxLen; omega, by rw [h.size]; exact (Nat.mul_one _).symm, ?_⟩⟩, by simp [KI, Kd.int, Kd.scalar], fun j p hj => ?_⟩
  · rw [hc]; exact List.take_of_length_le (by simp [KI, Kd.int, Kd.scalar])
  · show ((xs.map (Value.int .i64)).drop (j * 1)).take 1 = [.int .i64 p]
    obtain ⟨hlt, rfl⟩ := List.getElem?_eq_some_iff.1 hj
    rw [Nat.mul_one, List.drop_eq_getElem_cons (by simpa using hlt)]
    simp
theorem int_ty (t : Nat) (h : 3 ≠ t) : ∀ q, q ∈ 3 :: KI.E → q ≠ t := fun q hq => by
  rcases List.mem_cons.1 hq with e | e
  · subst e; exact h
  · exact absurd e (by simp [KI, Kd.int, Kd.scalar])
theorem rd_map (l : List Int) (f : Int → Int) (k : Nat) (h : k < l.length) : rd (l.map f) k = f (rd l k) := by rw [rd_get _ k (by simpa using h), rd_get _ k h]; simp

set_option maxHeartbeats 4000000 in
set_option maxRecDepth 100000 in
theorem cut_any (A0 : Option Addr) (c0 : Nat) (sc : List Int) (A1 : Option Addr) (c1 : Nat) (rows : List (List Int)) (A2 : Option Addr) (c2 : Nat) (onto : List Int) (w : World) (hr0 : Kd.C KI w A0 sc.length sc) (hr1 : Kd.C KL w A1 rows.length rows) (hr2 : Kd.C KI w A2 onto.length onto)
    (hm1 : rows.length ≤ 1000000000) (hm2 : onto.length ≤ 1000000000) :
    Calls Try.prog 39 #[.slice A0 sc.length c0, .slice A1 rows.length c1, .slice A2 onto.length c2] w fun e w' => ∃ v, e = .returned v ∧ RelM w' w.heap.size v (onto, cutRows sc rows onto) ∧ Below w.heap.size w w' := by
  have HR0 := Aside0.mk hr0
  have HR1 := Aside0.mk hr1
  have HR2 := Aside0.mk hr2
  have HM1 := Aside0.mk hm1
  have HM2 := Aside0.mk hm2
  have hmk := fun W => run_make_row' (P := Try.prog) 22 3 (.int .i64 0) 8 Try.underlying22 infoInt rfl .i64 .i64 onto.length (by omega) (by omega) W
  clear hr0 hr1 hr2
  go_enter Try.func39, Try.ntmps39
  go_wp2
  clear hmk
  obtain ⟨W0, hW0⟩ : ∃ W0, (w.alloc (.cells #[.slice none 0 0, .slice none 0 0] 25)).alloc (.cells (madeCells #[.int .i64 0] onto.length) 3) = W0 := ⟨_, rfl⟩
  have hb0 : Below w.heap.size w W0 := by rw [← hW0]; exact below_alloc (below_alloc (Below.refl _ _) _) _
  have hI0 : IntsAt W0 (w.heap.size + 1) (madeCells #[.int .i64 0] onto.length) (onto.map (idx sc)) 0 := ⟨by rw [← hW0]; have := heap_alloc_new (w.alloc (.cells #[.slice none 0 0, .slice none 0 0] 25)) (.cells (madeCells #[.int .i64 0] onto.length) 3); rwa [World.size_alloc] at this, by simp [madeCells], fun j hj => by omega⟩
  have hX0 : W0.heap[w.heap.size]? = some (.cells #[.slice none 0 0, .slice none 0 0] 25 (0, 0)) := by rw [← hW0]; exact (Below.heap_alloc _ _ _ (by simp)).trans (heap_alloc_new w _)
  rw [hW0]
  have HL0 := Aside0.mk (And.intro hb0 (And.intro hI0 hX0))
  clear hb0 hI0 hX0 hW0
  go_loopw [18] (fun i W => ∃ (k : Nat) (cur : Array Value), k ≤ onto.length ∧ i = .int .i64 k ∧ Aside0 (Below w.heap.size w W ∧ IntsAt W (w.heap.size + 1) cur (onto.map (idx sc)) k ∧ W.heap[w.heap.size]? = some (.cells #[.slice none 0 0, .slice none 0 0] 25 (0, 0)))) (fun i _ => onto.length - (intOf i).toNat)
  case atStart => exact ⟨0, _, Nat.zero_le _, rfl, HL0⟩
  case round =>
    obtain ⟨k, cur, hk, rfl, HL⟩ := hrel
    by_cases hlt : k < onto.length
    · obtain ⟨ad, rfl, hx⟩ := at_int' HR2.out HL.out.1 k (by omega) (by omega)
      simp only [Int.toNat_natCast] at hx
      have hcell := HL.out.2.1.cell k (by simpa using hlt)
      have hfr := HL.out.2.1.frozen k
      have hkl : (k : Int) < (onto.length : Int) := by omega
      have hcl : ∀ x, Calls Try.prog 55 #[.slice A0 sc.length c0, .int .i64 x] wr fun e w' => e = .returned (.int .i64 (idx sc x)) ∧ wr = w' := fun x => slices_Index_any A0 c0 sc x wr (Kd.C_below HR0.out HL.out.1)
      have hrm := Aside0.mk (rd_map onto (idx sc) k hlt)
      have hml := Aside0.mk (show k < (onto.map (idx sc)).length by simpa using hlt)
      go_wp2_with (go_at_call 55; refine (hcl _).mono ?_; rintro e w1 ⟨rfl, rfl⟩)
      go_roundw
      case measure => simp [intOf]; omega
      case rel =>
        refine ⟨k + 1, cur.setIfInBounds k (.int .i64 (idx sc (rd onto k))), by omega, by go_num, ⟨HL.out.1.setCell (p := ⟨w.heap.size + 1, k, none⟩) (Nat.le_succ _) _, ?_, ?_⟩⟩
        · rw [← hrm.out]; exact HL.out.2.1.push hml.out
        · exact (Below.heap_setCell _ _ _ _ (by simp)).trans HL.out.2.2
    · have hke : k = onto.length := by omega
      subst hke
      have hmk := fun W => run_make_row' (P := Try.prog) 23 22 (.slice none 0 0) 24 Try.underlying23 infoInts rfl .i64 .i64 rows.length (by have := HM1.out; omega) (by have := HM1.out; omega) W
      go_wp2
      clear hmk
      have hW2 : Aside0 (Below w.heap.size w (wr.alloc (.cells (madeCells #[.slice none 0 0] rows.length) 22)) ∧ RowsAt (wr.alloc (.cells (madeCells #[.slice none 0 0] rows.length) 22)) w.heap.size wr.heap.size (madeCells #[.slice none 0 0] rows.length) [] ∧
          Kd.R KI 3 (wr.alloc (.cells (madeCells #[.slice none 0 0] rows.length) 22)) w.heap.size AnyB (.slice (some ⟨w.heap.size + 1, 0, none⟩) onto.length onto.length) (onto.map (idx sc)) ∧ (wr.alloc (.cells (madeCells #[.slice none 0 0] rows.length) 22)).heap[w.heap.size]? = some (.cells #[.slice none 0 0, .slice none 0 0] 25 (0, 0))) := ⟨by
        have hR := IntsAt.row (base := w.heap.size) (xs := onto.map (idx sc)) (by simpa using HL.out.2.1) (Nat.le_succ _) (by simpa using hm2)
        rw [List.length_map] at hR
        exact ⟨HL.out.1.alloc HL.out.1.size _, ⟨heap_alloc_new wr _, by simp, fun j hj => by simp at hj⟩, Kd.R_below hR (below_alloc (Below.refl _ _) _), (Below.heap_alloc _ _ _ (Array.getElem?_eq_some_iff.1 HL.out.2.2).1).trans HL.out.2.2⟩⟩
      have hgs : Aside0 (w.heap.size < wr.heap.size) := ⟨(Array.getElem?_eq_some_iff.1 HL.out.2.2).1⟩
      clear HL
      obtain ⟨g, hg⟩ : ∃ g, g = wr.heap.size := ⟨_, rfl⟩
      rw [← hg] at hW2 hgs ⊢
      clear hg
      generalize wr.alloc (.cells (madeCells #[.slice none 0 0] rows.length) 22) = W2 at hW2 ⊢
      obtain ⟨ps, hps⟩ : ∃ ps, ps = onto.map (idx sc) := ⟨_, rfl⟩
      rw [← hps] at hW2
      have HPS := Aside0.mk hps
      clear hps
      have HSZ := Aside0.mk (show (madeCells #[.slice none 0 0] rows.length).size = rows.length by simp [madeCells])
      go_loopw [35] (fun i W => ∃ (k : Nat) (cur : Array Value), k ≤ rows.length ∧ i = .int .i64 k ∧ Aside0 (cur.size = rows.length) ∧ Aside0 (Below w.heap.size w W ∧ RowsAt W w.heap.size g cur ((rows.take k).map fun t => pick t ps) ∧
          Kd.R KI 3 W w.heap.size AnyB (.slice (some ⟨w.heap.size + 1, 0, none⟩) onto.length onto.length) ps ∧ W.heap[w.heap.size]? = some (.cells #[.slice none 0 0, .slice none 0 0] 25 (0, 0)))) (fun i _ => rows.length - (intOf i).toNat)
      case atStart => exact ⟨0, _, Nat.zero_le _, rfl, HSZ, ⟨hW2.out.1, by simpa using hW2.out.2.1, hW2.out.2.2⟩⟩
      case round =>
        obtain ⟨k, cur, hk, rfl, HS, HL⟩ := hrel
        by_cases hlt : k < rows.length
        · obtain ⟨ad, Bx, cx, rfl, hx, _, hcx⟩ := at_row HR1.out HL.out.1 k hlt
          have hpl := congrArg List.length HPS.out
          rw [List.length_map] at hpl
          have hpr : Kd.C KI wr (some ⟨w.heap.size + 1, 0, none⟩) ps.length ps := by
            obtain ⟨A, c, e, _, h⟩ := Kd.R_reads HL.out.2.2.1
            injection e with e1 e2 e3
            rw [e1]; exact h
          have hkl : (k : Int) < (rows.length : Int) := by omega
          obtain ⟨x, hxe⟩ : ∃ x, x = rows.getD k [] := ⟨_, rfl⟩
          rw [← hxe] at hx hcx
          have hpk := tuple_Pick_any Bx cx x (some ⟨w.heap.size + 1, 0, none⟩) onto.length ps wr hcx hpr (by omega)
          rw [hpl] at hpk
          have HX := Aside0.mk (And.intro hxe (And.intro hcx hpr))
          clear hxe hcx hpr hpl
          go_wp2_with (go_at_call 62; refine hpk.mono ?_; rintro e w1 ⟨v, rfl, hv, hb⟩; obtain ⟨A1, c1, rfl, _, _⟩ := Kd.R_reads hv; have HV := Aside0.mk hv; have HBB := Aside0.mk hb; have hcell := (HL.out.2.1.keep hb).cell k (by have := HS.out; omega); have hfr := (HL.out.2.1.keep hb).frozen k; clear hv hb hpk)
          go_roundw
          case measure => simp [intOf]; omega
          case rel =>
            have hgs2 : w.heap.size < wr.heap.size := (Array.getElem?_eq_some_iff.1 HL.out.2.2.2).1
            have hrow := (HL.out.2.1.keep HBB.out).push (i := k) (by simp; omega) (by have := HS.out; omega) (R_FK (HV.out) (by exact (Array.getElem?_eq_some_iff.1 HL.out.2.1.blk).1) (Nat.le_of_lt hgs2))
            have ht : (rows.take (k + 1)).map (fun t => pick t ps) = (rows.take k).map (fun t => pick t ps) ++ [pick x ps] := by rw [List.take_succ_eq_append_getElem hlt, List.map_append, HX.out.1, List.getD_eq_getElem?_getD, List.getElem?_eq_getElem hlt]; rfl
            refine ⟨k + 1, cur.setIfInBounds k (.slice A1 (pick x ps).length c1), by omega, by go_num, ⟨by rw [Array.size_setIfInBounds]; exact HS.out⟩, ⟨?_, by rw [ht]; exact hrow, ?_, ?_⟩⟩
            · exact (below_then HL.out.1 HL.out.1.size HBB.out).setCell (p := ⟨g, k, none⟩) (Nat.le_of_lt hgs.out) _
            · exact Kd.R_set (Kd.R_below HL.out.2.2.1 HBB.out) (HL.out.2.1.keep HBB.out).blk (int_ty _ (by decide)) _ _
            · exact (Below.heap_setCell _ _ _ _ (by have := hgs.out; simp; omega)).trans ((HBB.out.block _ hgs2).trans HL.out.2.2.2)
        · have hke : k = rows.length := by omega
          subst hke
          rw [List.take_length] at HL
          have hgw : w.heap.size ≤ g := Nat.le_of_lt hgs.out
          have hN := RowsAt_N HL.out.2.1 hgw (by rw [HS.out]; unfold maxLen; omega)
          obtain ⟨hN1, hN2, hN3⟩ := Kd.N_reads' hN
          have HN := Aside0.mk (And.intro hN2 hN3)
          have hpk : ∀ x ∈ rows.map (fun t => pick t ps), x.length < 17592186044416 := fun x hx => by
            obtain ⟨t, _, rfl⟩ := List.mem_map.1 hx
            have h1 : (pick t ps).length ≤ ps.length := by unfold pick; exact List.length_filterMap_le _ _
            have h2 := congrArg List.length HPS.out
            rw [List.length_map] at h2
            omega
          have hlm : (rows.map (fun t => pick t ps)).length = rows.length := List.length_map _
          have hsort := fun (W : World) (hb : Below wr.heap.size wr W) => tuple_Sort_any (some ⟨g, 0, none⟩) rows.length (rows.map fun t => pick t ps) W (Kd.C_below HN.out.2 hb) (by rw [hlm]; omega) hpk
          rw [hlm] at hsort
          have HSO := Aside0.mk hsort
          have hxb := HL.out.2.2.2
          clear hN hN1 hN2 hN3 hsort hpk
          go_wp2_with (first
            | (go_at_call 48; refine (slices_Clone_any _ _ onto _ (Kd.C_below HR2.out HL.out.1) (by omega)).mono ?_; rintro e w1 ⟨v, rfl, hv, hb⟩; obtain ⟨A3, c3, rfl, _, _⟩ := Kd.R_reads hv; have HV := Aside0.mk hv; have HBB := Aside0.mk hb; clear hv hb)
            | (go_at_call 49; refine (HSO.out _ HBB.out).mono ?_; rintro e w2 ⟨v2, rfl, hv2, hb2⟩; obtain ⟨A4, c4, rfl, _, _⟩ := Kd.N_reads hv2; have HV2 := Aside0.mk hv2; have HB2 := Aside0.mk hb2; clear hv2 hb2;
               have hw1 := (HBB.out.block _ (Array.getElem?_eq_some_iff.1 hxb).1).trans hxb; have hw2 := (HB2.out.block _ (Array.getElem?_eq_some_iff.1 hw1).1).trans hw1; have q0 := blk2_c0 hw2; have q1 := blk_fr (i := 0) hw2;
               have hw3 := blk2_s0 hw2 (.slice A3 onto.length c3); have q2 := blk2_c1 hw3; have q3 := blk_fr (i := 1) hw3;
               have hw4 := blk2_s1 hw3 (.slice A4 (Pl.sortU (rows.map fun t => pick t ps)).length c4); have HW4 := Aside0.mk (And.intro hw4 hw2); clear hw1 hw2 hw3 hw4))
          have q4 := blk2_c0 HW4.out.1
          have q5 := blk2_c1 HW4.out.1
          have q6 := blk_fr (i := 0) HW4.out.1
          have q7 := blk_fr (i := 1) HW4.out.1
          refine bodyPost_ret (v := .agg #[.slice A3 onto.length c3, .slice A4 (Pl.sortU (rows.map fun t => pick t ps)).length c4]) (by simp [results, Try.results39, go_sem, q4, q5]) rfl ?_
          have hlt1 : w.heap.size < w1.heap.size := Nat.lt_of_lt_of_le (Array.getElem?_eq_some_iff.1 hxb).1 HBB.out.size
          have hw2 := HW4.out.2
          have hA := Kd.R_set (Kd.R_set (Kd.R_below HV.out HB2.out) hw2 (int_ty _ (by decide)) 0 (.slice A3 onto.length c3)) (blk2_s0 hw2 (.slice A3 onto.length c3)) (int_ty _ (by decide)) 1 (.slice A4 (Pl.sortU (rows.map fun t => pick t ps)).length c4)
          have hB := Kd.N_far (Kd.N_far HV2.out (p := ⟨w.heap.size, 0, none⟩) (fun k hk => by have : w1.heap.size ≤ k := hk; show k ≠ w.heap.size; omega) (.slice A3 onto.length c3)) (p := ⟨w.heap.size, 1, none⟩) (fun k hk => by have : w1.heap.size ≤ k := hk; show k ≠ w.heap.size; omega) (.slice A4 (Pl.sortU (rows.map fun t => pick t ps)).length c4)
          refine ⟨_, rfl, ⟨_, _, rfl, Kd.R_mono (Kd.R_bound (Kd.R_lower hA HL.out.1.size)) (fun k hk => hk.2.1), ?_⟩, ?_⟩
          · have hlow : w.heap.size ≤ w1.heap.size := Nat.le_of_lt hlt1
            have := Kd.N_mono (Kd.N_lower hB hlow) (ok' := fun k => w.heap.size ≤ k) (fun k hk => Nat.le_trans hlow hk)
            simp only [cutRows, ← HPS.out]; exact this
          · have h1 := below_then HL.out.1 HL.out.1.size HBB.out
            exact ((below_then h1 h1.size HB2.out).setCell (p := ⟨w.heap.size, 0, none⟩) (Nat.le_refl _) _).setCell (p := ⟨w.heap.size, 1, none⟩) (Nat.le_refl _) _
end Go.Proofs.Ytlinhcgggfdlpaa.G
