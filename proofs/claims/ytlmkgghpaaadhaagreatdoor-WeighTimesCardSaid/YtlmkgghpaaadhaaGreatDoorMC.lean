/- Several texts of this claim in one. -/
import Derived.Test.YtlmkgghpaaadhaaGreatDoorMB
import Derived.Test.YtlmkgghpaaadhaaGreatDoorMA
import Derived.OneCell
import Derived.Test.YtlmkgghpaaadhaaGreatDoorShelf
import Derived.Shelf.SlIterI.Sorted
import Derived.Lib.RowBridge
/- rel.cut: rows over another scheme. -/
set_option linter.unusedVariables false
set_option linter.unusedSimpArgs false
namespace Go.Proofs.YtlmkgghpaaadhaaGreatDoor.G
open Go.RowKit Go.Proofs.YtlmkgghpaaadhaaGreatDoorW.PrintWords Go.Proofs.YtlmkgghpaaadhaaGreatDoorW.PrintLast Go.Proofs.YtlmkgghpaaadhaaGreatDoorW.PrintMore

theorem blk2_c0 {W : World} {g t : Nat} {a b : Value} (h : W.heap[g]? = some (.cells #[a, b] t (0, 0))) : W.cell? ⟨g, 0, none⟩ = some a := by rw [cell_of_row W g 0 _ _ _ h]; rfl
theorem blk2_c1 {W : World} {g t : Nat} {a b : Value} (h : W.heap[g]? = some (.cells #[a, b] t (0, 0))) : W.cell? ⟨g, 1, none⟩ = some b := by rw [cell_of_row W g 1 _ _ _ h]; rfl
theorem blk_fr {W : World} {g t i : Nat} {cs : Array Value} (h : W.heap[g]? = some (.cells cs t (0, 0))) : W.frozen? ⟨g, i, none⟩ = false := by simp [World.frozen?, h]
theorem blk2_s0 {W : World} {g t : Nat} {a b : Value} (h : W.heap[g]? = some (.cells #[a, b] t (0, 0))) (u : Value) : (W.setCell ⟨g, 0, none⟩ u).heap[g]? = some (.cells #[u, b] t (0, 0)) := blk_set1 h 0 u
theorem blk2_s1 {W : World} {g t : Nat} {a b : Value} (h : W.heap[g]? = some (.cells #[a, b] t (0, 0))) (u : Value) : (W.setCell ⟨g, 1, none⟩ u).heap[g]? = some (.cells #[a, u] t (0, 0)) := blk_set1 h 1 u

/-- A relation that is read: a scheme, and rows. -/
def RelC (w : World) (v : Value) (r : List Int × List (List Int)) : Prop :=
  ∃ A0 c0 A1 c1, v = .agg #[.slice A0 r.1.length c0, .slice A1 r.2.length c1] ∧ r.1.length ≤ c0 ∧ r.2.length ≤ c1 ∧ Kd.C KI w A0 r.1.length r.1 ∧ Kd.C KL w A1 r.2.length r.2
theorem RelC.below {w w1 : World} {v : Value} {r : List Int × List (List Int)} (h : RelC w v r) (hb : Below w.heap.size w w1) : RelC w1 v r := by
  obtain ⟨A0, c0, A1, c1, e, h0, h1, h2, h3⟩ := h
  exact ⟨A0, c0, A1, c1, e, h0, h1, Kd.C_below h2 hb, Kd.C_below h3 hb⟩

/-- A relation of the call's own. -/
def RelM (w : World) (base : Nat) (v : Value) (r : List Int × List (List Int)) : Prop :=
  ∃ s0 s1, v = .agg #[s0, s1] ∧ Kd.R KI 3 w base (fun k => base ≤ k) s0 r.1 ∧ Kd.N KL 22 w base (fun k => base ≤ k) s1 r.2
theorem RelM.reads {w : World} {base : Nat} {v : Value} {r : List Int × List (List Int)} (h : RelM w base v r) : RelC w v r := by
  obtain ⟨s0, s1, rfl, h0, h1⟩ := h
  obtain ⟨A, c, rfl, hl, hr⟩ := Kd.R_reads h0
  obtain ⟨A', c', rfl, hl', hr'⟩ := Kd.N_reads h1
  exact ⟨A, c, A', c', rfl, hl, hl', hr, hr'⟩
theorem RelM.lower {w : World} {base base' : Nat} {v : Value} {r : List Int × List (List Int)} (h : RelM w base v r) (hb : base' ≤ base) : RelM w base' v r := by
  obtain ⟨s0, s1, rfl, h0, h1⟩ := h
  exact ⟨s0, s1, rfl, Kd.R_mono (Kd.R_lower h0 hb) (fun k hk => Nat.le_trans hb hk), Kd.N_mono (Kd.N_lower h1 hb) (fun k hk => Nat.le_trans hb hk)⟩
theorem RelM.below {w w1 : World} {base : Nat} {v : Value} {r : List Int × List (List Int)} (h : RelM w base v r) (hb : Below w.heap.size w w1) : RelM w1 base v r := by
  obtain ⟨s0, s1, rfl, h0, h1⟩ := h
  exact ⟨s0, s1, rfl, Kd.R_below h0 hb, Kd.N_below h1 hb⟩
theorem RelM.far {w : World} {base : Nat} {v : Value} {r : List Int × List (List Int)} (h : RelM w base v r) {p : Addr} (hp : p.block < base) (u : Value) : RelM (w.setCell p u) base v r := by
  obtain ⟨s0, s1, rfl, h0, h1⟩ := h
  exact ⟨s0, s1, rfl, Kd.R_far h0 (fun k hk => by have : base ≤ k := hk; omega) u, Kd.N_far h1 (fun k hk => by have : base ≤ k := hk; omega) u⟩
theorem RelM.none_ (w : World) (base : Nat) : RelM w base (.agg #[.slice none 0 0, .slice none 0 0]) ([], []) := ⟨_, _, rfl, Kd.R_nil _ _ _ _ _, Kd.N_nil _ _ _ _ _⟩

def cutRows (sc : List Int) (rows : List (List Int)) (onto : List Int) : List (List Int) := Pl.sortU (rows.map fun t => pick t (onto.map (idx sc)))

/-- The first k numbers of a row stand in block g. -/
structure IntsAt (W : World) (g : Nat) (cur : Array Value) (xs : List Int) (k : Nat) : Prop where
  blk : W.heap[g]? = some (.cells cur 3 (0, 0))
  size : cur.size = xs.length
  at_ : ∀ j, j < k → cur[j]! = .int .i64 (rd xs j)
theorem IntsAt.cell {W : World} {g : Nat} {cur : Array Value} {xs : List Int} {k : Nat} (h : IntsAt W g cur xs k) (j : Nat) (hj : j < xs.length) : W.cell? ⟨g, j, none⟩ = some cur[j]! := by
  rw [cell_of_row W g j cur _ _ h.blk]; simp [h.size, hj]
theorem IntsAt.frozen {W : World} {g : Nat} {cur : Array Value} {xs : List Int} {k : Nat} (h : IntsAt W g cur xs k) (j : Nat) : W.frozen? ⟨g, j, none⟩ = false := by simp [World.frozen?, h.blk]
theorem IntsAt.push {W : World} {g : Nat} {cur : Array Value} {xs : List Int} {k : Nat} (h : IntsAt W g cur xs k) (hk : k < xs.length) : IntsAt (W.setCell ⟨g, k, none⟩ (.int .i64 (rd xs k))) g (cur.setIfInBounds k (.int .i64 (rd xs k))) xs (k + 1) :=
  ⟨blk_set1 h.blk _ _, by rw [Array.size_setIfInBounds]; exact h.size, fun j hj => by
    by_cases e : j = k
    · subst e; exact get_set_eq _ _ _ (by rw [h.size]; exact hk)
    · rw [get_set_ne _ _ _ _ (fun e' => e e'.symm)]; exact h.at_ j (by omega)⟩
theorem IntsAt.row {W : World} {g base : Nat} {cur : Array Value} {xs : List Int} (h : IntsAt W g cur xs xs.length) (hb : base ≤ g) (hm : xs.length ≤ 1000000000) : Kd.R KI 3 W base AnyB (.slice (some ⟨g, 0, none⟩) xs.length xs.length) xs := by
  have hc : cur.toList = xs.map (Value.int .i64) := by
    refine List.ext_getElem (by simp [h.size]) fun j h1 h2 => ?_
    have hj : j < xs.length := by simpa [h.size] using h1
    have := h.at_ j hj
    rw [getElem!_pos cur j (by rw [h.size]; exact hj), rd_get xs j hj] at this
    simpa using this
  refine ⟨fun _ _ => trivial, xs.map (Value.int .i64), ⟨by simp [KI, Kd.int, Kd.scalar], .inr ⟨g, xs.length, cur, rfl, hb, h.blk, Nat.le_refl _, by unfold maxLen; omega, by rw [h.size]; exact (Nat.mul_one _).symm, ?_⟩⟩, by simp [KI, Kd.int, Kd.scalar], fun j p hj => ?_⟩
  · rw [hc]; exact List.take_of_length_le (by simp [KI, Kd.int, Kd.scalar])
  · show ((xs.map (Value.int .i64)).drop (j * 1)).take 1 = [.int .i64 p]
    obtain ⟨hlt, rfl⟩ := List.getElem?_eq_some_iff.1 hj
    rw [Nat.mul_one, List.drop_eq_getElem_cons (by simpa using hlt)]
    simp
theorem int_ty (t : Nat) (h : 3 ≠ t) : ∀ q, q ∈ 3 :: KI.E → q ≠ t := fun q hq => by
  rcases List.mem_cons.1 hq with e | e
  · subst e; exact h
  · exact absurd e (by simp [KI, Kd.int, Kd.scalar])
theorem rd_map (l : List Int) (f : Int → Int) (k : Nat) (h : k < l.length) : rd (l.map f) k = f (rd l k) := by rw [rd_get _ k (by simpa using h), rd_get _ k h]; simp

set_option maxHeartbeats 4000000 in
set_option maxRecDepth 100000 in
theorem cut_any (A0 : Option Addr) (c0 : Nat) (sc : List Int) (A1 : Option Addr) (c1 : Nat) (rows : List (List Int)) (A2 : Option Addr) (c2 : Nat) (onto : List Int) (w : World) (hr0 : Kd.C KI w A0 sc.length sc) (hr1 : Kd.C KL w A1 rows.length rows) (hr2 : Kd.C KI w A2 onto.length onto)
    (hm1 : rows.length ≤ 1000000000) (hm2 : onto.length ≤ 1000000000) :
    Calls Tryz.prog 98 #[.slice A0 sc.length c0, .slice A1 rows.length c1, .slice A2 onto.length c2] w fun e w' => ∃ v, e = .returned v ∧ RelM w' w.heap.size v (onto, cutRows sc rows onto) ∧ Below w.heap.size w w' := by
  have HR0 := Aside0.mk hr0
  have HR1 := Aside0.mk hr1
  have HR2 := Aside0.mk hr2
  have HM1 := Aside0.mk hm1
  have HM2 := Aside0.mk hm2
  have hmk := fun W => run_make_row' (P := Tryz.prog) 22 3 (.int .i64 0) 8 Tryz.underlying22 infoInt rfl .i64 .i64 onto.length (by omega) (by omega) W
  clear hr0 hr1 hr2
  go_enter Tryz.func98, Tryz.ntmps98
  go_wp2
  clear hmk
  obtain ⟨W0, hW0⟩ : ∃ W0, (w.alloc (.cells #[.slice none 0 0, .slice none 0 0] 31)).alloc (.cells (madeCells #[.int .i64 0] onto.length) 3) = W0 := ⟨_, rfl⟩
  have hb0 : Below w.heap.size w W0 := by rw [← hW0]; exact below_alloc (below_alloc (Below.refl _ _) _) _
  have hI0 : IntsAt W0 (w.heap.size + 1) (madeCells #[.int .i64 0] onto.length) (onto.map (idx sc)) 0 := ⟨by rw [← hW0]; have := heap_alloc_new (w.alloc (.cells #[.slice none 0 0, .slice none 0 0] 31)) (.cells (madeCells #[.int .i64 0] onto.length) 3); rwa [World.size_alloc] at this, by simp [madeCells], fun j hj => by omega⟩
  have hX0 : W0.heap[w.heap.size]? = some (.cells #[.slice none 0 0, .slice none 0 0] 31 (0, 0)) := by rw [← hW0]; exact (Below.heap_alloc _ _ _ (by simp)).trans (heap_alloc_new w _)
  rw [hW0]
  have HL0 := Aside0.mk (And.intro hb0 (And.intro hI0 hX0))
  clear hb0 hI0 hX0 hW0
  go_loopw [18] (fun i W => ∃ (k : Nat) (cur : Array Value), k ≤ onto.length ∧ i = .int .i64 k ∧ Aside0 (Below w.heap.size w W ∧ IntsAt W (w.heap.size + 1) cur (onto.map (idx sc)) k ∧ W.heap[w.heap.size]? = some (.cells #[.slice none 0 0, .slice none 0 0] 31 (0, 0)))) (fun i _ => onto.length - (intOf i).toNat)
  case atStart => exact ⟨0, _, Nat.zero_le _, rfl, HL0⟩
  case round =>
    obtain ⟨k, cur, hk, rfl, HL⟩ := hrel
    by_cases hlt : k < onto.length
    · obtain ⟨ad, rfl, hx⟩ := at_int' HR2.out HL.out.1 k (by omega) (by omega)
      simp only [Int.toNat_natCast] at hx
      have hcell := HL.out.2.1.cell k (by simpa using hlt)
      have hfr := HL.out.2.1.frozen k
      have hkl : (k : Int) < (onto.length : Int) := by omega
      have hcl : ∀ x, Calls Tryz.prog 74 #[.slice A0 sc.length c0, .int .i64 x] wr fun e w' => e = .returned (.int .i64 (idx sc x)) ∧ wr = w' := fun x => slices_Index_any A0 c0 sc x wr (Kd.C_below HR0.out HL.out.1)
      have hrm := Aside0.mk (rd_map onto (idx sc) k hlt)
      have hml := Aside0.mk (show k < (onto.map (idx sc)).length by simpa using hlt)
      go_wp2_with (go_at_call 74; refine (hcl _).mono ?_; rintro e w1 ⟨rfl, rfl⟩)
      go_roundw
      case measure => simp [intOf]; omega
      case rel =>
        refine ⟨k + 1, cur.setIfInBounds k (.int .i64 (idx sc (rd onto k))), by omega, by go_num, ⟨HL.out.1.setCell (p := ⟨w.heap.size + 1, k, none⟩) (Nat.le_succ _) _, ?_, ?_⟩⟩
        · rw [← hrm.out]; exact HL.out.2.1.push hml.out
        · exact (Below.heap_setCell _ _ _ _ (by simp)).trans HL.out.2.2
    · have hke : k = onto.length := by omega
      subst hke
      have hmk := fun W => run_make_row' (P := Tryz.prog) 23 22 (.slice none 0 0) 24 Tryz.underlying23 infoInts rfl .i64 .i64 rows.length (by have := HM1.out; omega) (by have := HM1.out; omega) W
      go_wp2
      clear hmk
      have hW2 : Aside0 (Below w.heap.size w (wr.alloc (.cells (madeCells #[.slice none 0 0] rows.length) 22)) ∧ RowsAt (wr.alloc (.cells (madeCells #[.slice none 0 0] rows.length) 22)) w.heap.size wr.heap.size (madeCells #[.slice none 0 0] rows.length) [] ∧
          Kd.R KI 3 (wr.alloc (.cells (madeCells #[.slice none 0 0] rows.length) 22)) w.heap.size AnyB (.slice (some ⟨w.heap.size + 1, 0, none⟩) onto.length onto.length) (onto.map (idx sc)) ∧ (wr.alloc (.cells (madeCells #[.slice none 0 0] rows.length) 22)).heap[w.heap.size]? = some (.cells #[.slice none 0 0, .slice none 0 0] 31 (0, 0))) := ⟨by
        have hR := IntsAt.row (base := w.heap.size) (xs := onto.map (idx sc)) (by simpa using HL.out.2.1) (Nat.le_succ _) (by simpa using hm2)
        rw [List.length_map] at hR
        exact ⟨HL.out.1.alloc HL.out.1.size _, ⟨heap_alloc_new wr _, by simp, fun j hj => by simp at hj⟩, Kd.R_below hR (below_alloc (Below.refl _ _) _), (Below.heap_alloc _ _ _ (Array.getElem?_eq_some_iff.1 HL.out.2.2).1).trans HL.out.2.2⟩⟩
      have hgs : Aside0 (w.heap.size < wr.heap.size) := ⟨(Array.getElem?_eq_some_iff.1 HL.out.2.2).1⟩
      clear HL
      obtain ⟨g, hg⟩ : ∃ g, g = wr.heap.size := ⟨_, rfl⟩
      rw [← hg] at hW2 hgs ⊢
      clear hg
      generalize wr.alloc (.cells (madeCells #[.slice none 0 0] rows.length) 22) = W2 at hW2 ⊢
      obtain ⟨ps, hps⟩ : ∃ ps, ps = onto.map (idx sc) := ⟨_, rfl⟩
      rw [← hps] at hW2
      have HPS := Aside0.mk hps
      clear hps
      have HSZ := Aside0.mk (show (madeCells #[.slice none 0 0] rows.length).size = rows.length by simp [madeCells])
      go_loopw [35] (fun i W => ∃ (k : Nat) (cur : Array Value), k ≤ rows.length ∧ i = .int .i64 k ∧ Aside0 (cur.size = rows.length) ∧ Aside0 (Below w.heap.size w W ∧ RowsAt W w.heap.size g cur ((rows.take k).map fun t => pick t ps) ∧
          Kd.R KI 3 W w.heap.size AnyB (.slice (some ⟨w.heap.size + 1, 0, none⟩) onto.length onto.length) ps ∧ W.heap[w.heap.size]? = some (.cells #[.slice none 0 0, .slice none 0 0] 31 (0, 0)))) (fun i _ => rows.length - (intOf i).toNat)
      case atStart => exact ⟨0, _, Nat.zero_le _, rfl, HSZ, ⟨hW2.out.1, by simpa using hW2.out.2.1, hW2.out.2.2⟩⟩
      case round =>
        obtain ⟨k, cur, hk, rfl, HS, HL⟩ := hrel
        by_cases hlt : k < rows.length
        · obtain ⟨ad, Bx, cx, rfl, hx, _, hcx⟩ := at_row HR1.out HL.out.1 k hlt
          have hpl := congrArg List.length HPS.out
          rw [List.length_map] at hpl
          have hpr : Kd.C KI wr (some ⟨w.heap.size + 1, 0, none⟩) ps.length ps := by
            obtain ⟨A, c, e, _, h⟩ := Kd.R_reads HL.out.2.2.1
            injection e with e1 e2 e3
            rw [e1]; exact h
          have hkl : (k : Int) < (rows.length : Int) := by omega
          obtain ⟨x, hxe⟩ : ∃ x, x = rows.getD k [] := ⟨_, rfl⟩
          rw [← hxe] at hx hcx
          have hpk := tuple_Pick_any Bx cx x (some ⟨w.heap.size + 1, 0, none⟩) onto.length ps wr hcx hpr (by omega)
          rw [hpl] at hpk
          have HX := Aside0.mk (And.intro hxe (And.intro hcx hpr))
          clear hxe hcx hpr hpl
          go_wp2_with (go_at_call 76; refine hpk.mono ?_; rintro e w1 ⟨v, rfl, hv, hb⟩; obtain ⟨A1, c1, rfl, _, _⟩ := Kd.R_reads hv; have HV := Aside0.mk hv; have HBB := Aside0.mk hb; have hcell := (HL.out.2.1.keep hb).cell k (by have := HS.out; omega); have hfr := (HL.out.2.1.keep hb).frozen k; clear hv hb hpk)
          go_roundw
          case measure => simp [intOf]; omega
          case rel =>
            have hgs2 : w.heap.size < wr.heap.size := (Array.getElem?_eq_some_iff.1 HL.out.2.2.2).1
            have hrow := (HL.out.2.1.keep HBB.out).push (i := k) (by simp; omega) (by have := HS.out; omega) (R_FK (HV.out) (by exact (Array.getElem?_eq_some_iff.1 HL.out.2.1.blk).1) (Nat.le_of_lt hgs2))
            have ht : (rows.take (k + 1)).map (fun t => pick t ps) = (rows.take k).map (fun t => pick t ps) ++ [pick x ps] := by rw [List.take_succ_eq_append_getElem hlt, List.map_append, HX.out.1, List.getD_eq_getElem?_getD, List.getElem?_eq_getElem hlt]; rfl
            refine ⟨k + 1, cur.setIfInBounds k (.slice A1 (pick x ps).length c1), by omega, by go_num, ⟨by rw [Array.size_setIfInBounds]; exact HS.out⟩, ⟨?_, by rw [ht]; exact hrow, ?_, ?_⟩⟩
            · exact (below_then HL.out.1 HL.out.1.size HBB.out).setCell (p := ⟨g, k, none⟩) (Nat.le_of_lt hgs.out) _
            · exact Kd.R_set (Kd.R_below HL.out.2.2.1 HBB.out) (HL.out.2.1.keep HBB.out).blk (int_ty _ (by decide)) _ _
            · exact (Below.heap_setCell _ _ _ _ (by have := hgs.out; simp; omega)).trans ((HBB.out.block _ hgs2).trans HL.out.2.2.2)
        · have hke : k = rows.length := by omega
          subst hke
          rw [List.take_length] at HL
          have hgw : w.heap.size ≤ g := Nat.le_of_lt hgs.out
          have hN := RowsAt_N HL.out.2.1 hgw (by rw [HS.out]; unfold maxLen; omega)
          obtain ⟨hN1, hN2, hN3⟩ := Kd.N_reads' hN
          have HN := Aside0.mk (And.intro hN2 hN3)
          have hpk : ∀ x ∈ rows.map (fun t => pick t ps), x.length < 17592186044416 := fun x hx => by
            obtain ⟨t, _, rfl⟩ := List.mem_map.1 hx
            have h1 : (pick t ps).length ≤ ps.length := by unfold pick; exact List.length_filterMap_le _ _
            have h2 := congrArg List.length HPS.out
            rw [List.length_map] at h2
            omega
          have hlm : (rows.map (fun t => pick t ps)).length = rows.length := List.length_map _
          have hsort := fun (W : World) (hb : Below wr.heap.size wr W) => tuple_Sort_any (some ⟨g, 0, none⟩) rows.length (rows.map fun t => pick t ps) W (Kd.C_below HN.out.2 hb) (by rw [hlm]; omega) hpk
          rw [hlm] at hsort
          have HSO := Aside0.mk hsort
          have hxb := HL.out.2.2.2
          clear hN hN1 hN2 hN3 hsort hpk
          go_wp2_with (first
            | (go_at_call 53; refine (slices_Clone_any _ _ onto _ (Kd.C_below HR2.out HL.out.1) (by omega)).mono ?_; rintro e w1 ⟨v, rfl, hv, hb⟩; obtain ⟨A3, c3, rfl, _, _⟩ := Kd.R_reads hv; have HV := Aside0.mk hv; have HBB := Aside0.mk hb; clear hv hb)
            | (go_at_call 93; refine (HSO.out _ HBB.out).mono ?_; rintro e w2 ⟨v2, rfl, hv2, hb2⟩; obtain ⟨A4, c4, rfl, _, _⟩ := Kd.N_reads hv2; have HV2 := Aside0.mk hv2; have HB2 := Aside0.mk hb2; clear hv2 hb2;
               have hw1 := (HBB.out.block _ (Array.getElem?_eq_some_iff.1 hxb).1).trans hxb; have hw2 := (HB2.out.block _ (Array.getElem?_eq_some_iff.1 hw1).1).trans hw1; have q0 := blk2_c0 hw2; have q1 := blk_fr (i := 0) hw2;
               have hw3 := blk2_s0 hw2 (.slice A3 onto.length c3); have q2 := blk2_c1 hw3; have q3 := blk_fr (i := 1) hw3;
               have hw4 := blk2_s1 hw3 (.slice A4 (Pl.sortU (rows.map fun t => pick t ps)).length c4); have HW4 := Aside0.mk (And.intro hw4 hw2); clear hw1 hw2 hw3 hw4))
          have q4 := blk2_c0 HW4.out.1
          have q5 := blk2_c1 HW4.out.1
          have q6 := blk_fr (i := 0) HW4.out.1
          have q7 := blk_fr (i := 1) HW4.out.1
          refine bodyPost_ret (v := .agg #[.slice A3 onto.length c3, .slice A4 (Pl.sortU (rows.map fun t => pick t ps)).length c4]) (by simp [results, Tryz.results98, go_sem, q4, q5]) rfl ?_
          have hlt1 : w.heap.size < w1.heap.size := Nat.lt_of_lt_of_le (Array.getElem?_eq_some_iff.1 hxb).1 HBB.out.size
          have hw2 := HW4.out.2
          have hA := Kd.R_set (Kd.R_set (Kd.R_below HV.out HB2.out) hw2 (int_ty _ (by decide)) 0 (.slice A3 onto.length c3)) (blk2_s0 hw2 (.slice A3 onto.length c3)) (int_ty _ (by decide)) 1 (.slice A4 (Pl.sortU (rows.map fun t => pick t ps)).length c4)
          have hB := Kd.N_far (Kd.N_far HV2.out (p := ⟨w.heap.size, 0, none⟩) (fun k hk => by have : w1.heap.size ≤ k := hk; show k ≠ w.heap.size; omega) (.slice A3 onto.length c3)) (p := ⟨w.heap.size, 1, none⟩) (fun k hk => by have : w1.heap.size ≤ k := hk; show k ≠ w.heap.size; omega) (.slice A4 (Pl.sortU (rows.map fun t => pick t ps)).length c4)
          refine ⟨_, rfl, ⟨_, _, rfl, Kd.R_mono (Kd.R_bound (Kd.R_lower hA HL.out.1.size)) (fun k hk => hk.2.1), ?_⟩, ?_⟩
          · have hlow : w.heap.size ≤ w1.heap.size := Nat.le_of_lt hlt1
            have := Kd.N_mono (Kd.N_lower hB hlow) (ok' := fun k => w.heap.size ≤ k) (fun k hk => Nat.le_trans hlow hk)
            simp only [cutRows, ← HPS.out]; exact this
          · have h1 := below_then HL.out.1 HL.out.1.size HBB.out
            exact ((below_then h1 h1.size HB2.out).setCell (p := ⟨w.heap.size, 0, none⟩) (Nat.le_refl _) _).setCell (p := ⟨w.heap.size, 1, none⟩) (Nat.le_refl _) _
end Go.Proofs.YtlmkgghpaaadhaaGreatDoor.G

/- tuple.merge: two rows that rise, gone through side by side. -/
set_option linter.unusedVariables false
set_option linter.unusedSimpArgs false
namespace Go.Proofs.YtlmkgghpaaadhaaGreatDoor.G
open Go.RowKit Go.Proofs.YtlmkgghpaaadhaaGreatDoorW.PrintWords Go.Proofs.YtlmkgghpaaadhaaGreatDoorW.PrintLast Go.Proofs.YtlmkgghpaaadhaaGreatDoorW.PrintMore

theorem cell_of_blk1 {W : World} {g e : Nat} {v : Value} (h : W.heap[g]? = some (.cells #[v] e (0, 0))) : W.cell? ⟨g, 0, none⟩ = some v := by rw [cell_of_row W g 0 _ _ _ h]; rfl
theorem frozen_of_blk {W : World} {g e i : Nat} {cs : Array Value} (h : W.heap[g]? = some (.cells cs e (0, 0))) : W.frozen? ⟨g, i, none⟩ = false := by simp [World.frozen?, h]
theorem blk1_set {W : World} {g e : Nat} {v : Value} (h : W.heap[g]? = some (.cells #[v] e (0, 0))) (u : Value) : (W.setCell ⟨g, 0, none⟩ u).heap[g]? = some (.cells #[u] e (0, 0)) := by
  simp [World.setCell, Array.getElem?_modify, h]

/-- A box that holds a row of the call's own. -/
structure Boxed (W : World) (g base : Nat) (xs : List Int) (v : Value) : Prop where
  blk : W.heap[g]? = some (.cells #[v] 22 (0, 0))
  row : Kd.R KI 3 W base AnyB v xs
theorem Boxed.ne {W : World} {g base : Nat} {xs : List Int} {v : Value} (h : Boxed W g base xs v) : some g ≠ v.ownBlock := Kd.R_ne h.row h.blk (by decide)
theorem Boxed.below {W W1 : World} {g base : Nat} {xs : List Int} {v : Value} (h : Boxed W g base xs v) (hb : Below W.heap.size W W1) : Boxed W1 g base xs v :=
  ⟨(hb.block g (Array.getElem?_eq_some_iff.1 h.blk).1).trans h.blk, Kd.R_below h.row hb⟩

/-- What a call leaves: the box holds a row. -/
def BoxedTo (W w' : World) (g base : Nat) (xs : List Int) : Prop := ∃ v', Boxed w' g base xs v' ∧ Below g W w'

set_option maxHeartbeats 1000000 in
set_option maxRecDepth 100000 in
theorem merge1_any (is : Bool) (n : Int) (g base : Nat) (xs : List Int) (v : Value) (W : World) (hB : Boxed W g base xs v) (h0 : g ≤ base) (h1 : base ≤ W.heap.size) (hl : xs.length < 17592186044416) :
    Calls Tryz.prog 118 #[.bool is, .int .i64 n, .pointer (some ⟨g, 0, none⟩)] W fun e w' => e = .returned (.tuple #[]) ∧ BoxedTo W w' g base (if is then xs ++ [n] else xs) := by
  have HB := Aside0.mk hB
  clear hB
  cases is
  · go_enter Tryz.func118, Tryz.ntmps118
    go_wp2
    go_end0
    exact ⟨rfl, v, HB.out, Below.refl _ _⟩
  · have hc := cell_of_blk1 HB.out.blk
    go_enter Tryz.func118, Tryz.ntmps118
    go_wp2_with (at_builtin; refine app_int (w := W) base rfl (.tmp 6) (.tmp 8) rfl v xs n rfl rfl ⟨HB.out.row⟩ ⟨Below.refl _ _⟩ h1 hl ?_; intro v1 w1 HO HBB HG; have hb1 : w1.heap[g]? = _ := (HG.out.block g (Array.getElem?_eq_some_iff.1 HB.out.blk).1 HB.out.ne).trans HB.out.blk; have hc1 := cell_of_blk1 hb1; have hf1 := frozen_of_blk (i := 0) hb1; have HB1 := Aside0.mk hb1; clear hb1; obtain ⟨A1, c1, rfl, _, _⟩ := Kd.R_reads HO.out; simp only [List.length_append, List.length_singleton] at HO)
    go_end0
    refine ⟨rfl, _, ⟨blk1_set HB1.out _, Kd.R_set HO.out HB1.out (fun q hq => ?_) 0 _⟩, (HBB.out.mono h0).setCell (Nat.le_refl _) _⟩
    rcases List.mem_cons.1 hq with e | e
    · subst e; decide
    · exact absurd e (by simp [KI, Kd.int, Kd.scalar])

/-- What is kept of two rows: of the first alone, of both, of the second alone. -/
def merge (f b s : Bool) : List Int → List Int → List Int
  | [], [] => []
  | x :: l, [] => (if f then [x] else []) ++ merge f b s l []
  | [], y :: m => (if s then [y] else []) ++ merge f b s [] m
  | x :: l, y :: m => if x < y then (if f then [x] else []) ++ merge f b s l (y :: m) else if y < x then (if s then [y] else []) ++ merge f b s (x :: l) m else (if b then [x] else []) ++ merge f b s l m
  termination_by l m => l.length + m.length

theorem merge_nn (f b s : Bool) : merge f b s [] [] = [] := by unfold merge; rfl
theorem merge_ln (f b s : Bool) (m : List Int) (h : 1 ≤ m.length) : merge f b s m [] = (if f then [rd m 0] else []) ++ merge f b s (m.drop 1) [] := by
  cases m with
  | nil => simp at h
  | cons x l => conv => lhs; unfold merge
                rfl
theorem merge_nr (f b s : Bool) (m : List Int) (h : 1 ≤ m.length) : merge f b s [] m = (if s then [rd m 0] else []) ++ merge f b s [] (m.drop 1) := by
  cases m with
  | nil => simp at h
  | cons x l => conv => lhs; unfold merge
                rfl
theorem merge_lt (f b s : Bool) (l m : List Int) (hl : 1 ≤ l.length) (hm : 1 ≤ m.length) (h : rd l 0 < rd m 0) : merge f b s l m = (if f then [rd l 0] else []) ++ merge f b s (l.drop 1) m := by
  cases l with
  | nil => simp at hl
  | cons x l => cases m with
    | nil => simp at hm
    | cons y m =>
      have h' : x < y := h
      conv => lhs; unfold merge
      rw [if_pos h']; rfl
theorem merge_gt (f b s : Bool) (l m : List Int) (hl : 1 ≤ l.length) (hm : 1 ≤ m.length) (h : rd m 0 < rd l 0) : merge f b s l m = (if s then [rd m 0] else []) ++ merge f b s l (m.drop 1) := by
  cases l with
  | nil => simp at hl
  | cons x l => cases m with
    | nil => simp at hm
    | cons y m =>
      have h' : y < x := h
      conv => lhs; unfold merge
      rw [if_neg (by omega), if_pos h']; rfl
theorem merge_eq (f b s : Bool) (l m : List Int) (hl : 1 ≤ l.length) (hm : 1 ≤ m.length) (h1 : ¬ rd l 0 < rd m 0) (h2 : ¬ rd m 0 < rd l 0) : merge f b s l m = (if b then [rd l 0] else []) ++ merge f b s (l.drop 1) (m.drop 1) := by
  cases l with
  | nil => simp at hl
  | cons x l => cases m with
    | nil => simp at hm
    | cons y m =>
      have h1' : ¬ x < y := h1
      have h2' : ¬ y < x := h2
      conv => lhs; unfold merge
      rw [if_neg h1', if_neg h2']; rfl

def slLen : Value → Nat
  | .slice _ n _ => n
  | _ => 0
/-- Between two rounds: what is kept, and what is to come. -/
structure MergeRel (f b s : Bool) (l0 l1 : List Int) (w W : World) (B0 B1 : Option Addr) (m0 m1 out : List Int) (v : Value) : Prop where
  c0 : Kd.C KI w B0 m0.length m0
  c1 : Kd.C KI w B1 m1.length m1
  val : out ++ merge f b s m0 m1 = merge f b s l0 l1
  num : out.length + m0.length + m1.length ≤ 1000000000
  box : Boxed W w.heap.size w.heap.size out v
  bel : Below w.heap.size w W
theorem MergeRel.lt {f b s : Bool} {l0 l1 : List Int} {w W : World} {B0 B1 : Option Addr} {m0 m1 out : List Int} {v : Value} (h : MergeRel f b s l0 l1 w W B0 B1 m0 m1 out v) : w.heap.size ≤ W.heap.size := h.bel.size
/-- One more is kept, or not. -/
theorem MergeRel.next {f b s : Bool} {l0 l1 : List Int} {w W W1 : World} {B0 B1 B0' B1' : Option Addr} {m0 m1 m0' m1' out : List Int} {v : Value} (is : Bool) (n : Int) (h : MergeRel f b s l0 l1 w W B0 B1 m0 m1 out v)
    (hc0 : Kd.C KI w B0' m0'.length m0') (hc1 : Kd.C KI w B1' m1'.length m1') (hv : merge f b s m0 m1 = (if is then [n] else []) ++ merge f b s m0' m1') (hn : m0'.length + m1'.length < m0.length + m1.length)
    (hb : BoxedTo W W1 w.heap.size w.heap.size (if is then out ++ [n] else out)) : ∃ out' v', MergeRel f b s l0 l1 w W1 B0' B1' m0' m1' out' v' := by
  obtain ⟨v', hbx, hbl⟩ := hb
  refine ⟨_, v', hc0, hc1, ?_, ?_, hbx, h.bel.trans hbl⟩
  · rw [← h.val, hv]
    cases is <;> simp
  · have := h.num
    cases is <;> simp <;> omega
theorem MergeRel.drew {f b s : Bool} {l0 l1 : List Int} {w W : World} {B0 B1 : Option Addr} {m0 m1 out : List Int} {v : Value} (h : MergeRel f b s l0 l1 w W B0 B1 m0 m1 out v) (n : Nat) : MergeRel f b s l0 l1 w (W.drewN n) B0 B1 m0 m1 out v :=
  ⟨h.c0, h.c1, h.val, h.num, h.box.below (pw_below_drewN (Below.refl _ _) _), pw_below_drewN h.bel _⟩
theorem MergeRel.keep {f b s : Bool} {l0 l1 : List Int} {w W : World} {B0 B1 : Option Addr} {m0 m1 out : List Int} {v : Value} (h : MergeRel f b s l0 l1 w W B0 B1 m0 m1 out v) (is : Bool) (n : Int) :
    Calls Tryz.prog 118 #[.bool is, .int .i64 n, .pointer (some ⟨w.heap.size, 0, none⟩)] W fun e w' => e = .returned (.tuple #[]) ∧ BoxedTo W w' w.heap.size w.heap.size (if is then out ++ [n] else out) :=
  merge1_any is n _ _ out v W h.box (Nat.le_refl _) h.lt (by have := h.num; omega)

set_option maxHeartbeats 2000000 in
set_option maxRecDepth 100000 in
theorem merge_any (A0 : Option Addr) (c0 : Nat) (l0 : List Int) (A1 : Option Addr) (c1 : Nat) (l1 : List Int) (f b s : Bool) (w : World) (hr0 : Kd.C KI w A0 l0.length l0) (hc0 : l0.length ≤ c0) (hr1 : Kd.C KI w A1 l1.length l1) (hc1 : l1.length ≤ c1) (hm : l0.length + l1.length ≤ 1000000000) :
    Calls Tryz.prog 106 #[.slice A0 l0.length c0, .slice A1 l1.length c1, .bool f, .bool b, .bool s] w fun e w' => ∃ v, e = .returned v ∧ Kd.R KI 3 w' w.heap.size AnyB v (merge f b s l0 l1) ∧ Below w.heap.size w w' := by
  have HR0 := Aside0.mk hr0
  have HR1 := Aside0.mk hr1
  have HM := Aside0.mk hm
  have HC0 := Aside0.mk hc0
  have HC1 := Aside0.mk hc1
  clear hr0 hr1 hc0 hc1
  go_enter Tryz.func106, Tryz.ntmps106
  go_wp2
  have hB0 : MergeRel f b s l0 l1 w (w.alloc (.cells #[.slice none 0 0] 22)) A0 A1 l0 l1 [] (.slice none 0 0) :=
    ⟨HR0.out, HR1.out, rfl, by have := HM.out; simp; omega, ⟨heap_alloc_new w _, Kd.R_nil _ _ _ _ _⟩, below_alloc (Below.refl _ _) _⟩
  have HS := Aside0.mk hB0
  clear hB0
  go_loopw [0, 1] (fun v0 v1 W => ∃ (B0 B1 : Option Addr) (d0 d1 : Nat) (m0 m1 out : List Int) (v : Value), v0 = .slice B0 m0.length d0 ∧ v1 = .slice B1 m1.length d1 ∧ m0.length ≤ d0 ∧ m1.length ≤ d1 ∧ Aside0 (MergeRel f b s l0 l1 w W B0 B1 m0 m1 out v)) (fun v0 v1 _ => slLen v0 + slLen v1)
  case atStart => exact ⟨A0, A1, c0, c1, l0, l1, [], _, rfl, rfl, HC0.out, HC1.out, HS⟩
  case round =>
    obtain ⟨B0, B1, d0, d1, m0, m1, out, v, rfl, rfl, hd0, hd1, HT⟩ := hrel
    have hnum : m0.length + m1.length ≤ 1000000000 := by have := HT.out.num; omega
    by_cases h0 : 1 ≤ m0.length
    · obtain ⟨ad0, rfl, hx⟩ := at_int' HT.out.c0 HT.out.bel 0 (by omega) (by omega)
      simp only [Int.toNat_zero, Addr.add_zero'] at hx
      obtain ⟨B0', hcut0, hC0', hl0'⟩ := cut1 (some ad0) d0 m0 h0 hd0
      have HC0' := Aside0.mk (hC0' w HT.out.c0)
      have hdl0 : (m0.drop 1).length < m0.length := by rw [List.length_drop]; omega
      have z0 : ((m0.length : Int) == 0) = false := by rw [beq_eq_false_iff_ne]; omega
      have p0 : (0 : Int) < (m0.length : Int) := by omega
      have p0n : 0 < m0.length := h0
      have p0d : decide ((0 : Int) < (m0.length : Int)) = true := decide_eq_true p0
      clear hC0'
      by_cases h1 : 1 ≤ m1.length
      · obtain ⟨ad1, rfl, hy⟩ := at_int' HT.out.c1 HT.out.bel 0 (by omega) (by omega)
        simp only [Int.toNat_zero, Addr.add_zero'] at hy
        obtain ⟨B1', hcut1, hC1', hl1'⟩ := cut1 (some ad1) d1 m1 h1 hd1
        have HC1' := Aside0.mk (hC1' w HT.out.c1)
        have hdl1 : (m1.drop 1).length < m1.length := by rw [List.length_drop]; omega
        have z1 : ((m1.length : Int) == 0) = false := by rw [beq_eq_false_iff_ne]; omega
        have p1 : (0 : Int) < (m1.length : Int) := by omega
        have p1n : 0 < m1.length := h1
        have p1d : decide ((0 : Int) < (m1.length : Int)) = true := decide_eq_true p1
        clear hC1'
        by_cases hlt : rd m0 0 < rd m1 0
        · have HV := Aside0.mk (merge_lt f b s m0 m1 h0 h1 hlt)
          go_wp2_with fail
          go_quiet (fail)
          have HTd := Aside0.mk (HT.out.drew nq)
          go_wp2_with (go_at_call 118; refine (HTd.out.keep f _).mono ?_; rintro e w' ⟨rfl, hto⟩; have HTO := Aside0.mk hto; clear hto)
          go_roundw
          case measure => simp [slLen]; omega
          case rel =>
            obtain ⟨out', v', h⟩ := HTd.out.next f (rd m0 0) HC0'.out HTd.out.c1 HV.out (by omega) HTO.out
            exact ⟨_, _, _, _, _, _, out', v', by simp only [List.length_drop], by simp only [List.length_drop], hl0', hd1, ⟨h⟩⟩
        · by_cases hgt : rd m1 0 < rd m0 0
          · have HV := Aside0.mk (merge_gt f b s m0 m1 h0 h1 hgt)
            go_wp2_with fail
            go_quiet (fail)
            have HTa := Aside0.mk (HT.out.drew nq)
            have hx2 : (wr.drewN nq).cell? ad0 = _ := hx
            have hy2 : (wr.drewN nq).cell? ad1 = _ := hy
            clear hx hy
            generalize wr.drewN nq = Wa at HTa hx2 hy2 ⊢
            go_wp2_with fail
            go_quiet (fail)
            have HTd := Aside0.mk (HTa.out.drew nq)
            go_wp2_with (go_at_call 118; refine (HTd.out.keep s _).mono ?_; rintro e w' ⟨rfl, hto⟩; have HTO := Aside0.mk hto; clear hto)
            go_roundw
            case measure => simp [slLen]; omega
            case rel =>
              obtain ⟨out', v', h⟩ := HTd.out.next s (rd m1 0) HTd.out.c0 HC1'.out HV.out (by omega) HTO.out
              exact ⟨_, _, _, _, _, _, out', v', by simp only [List.length_drop], by simp only [List.length_drop], hd0, hl1', ⟨h⟩⟩
          · have HV := Aside0.mk (merge_eq f b s m0 m1 h0 h1 hlt hgt)
            go_wp2_with fail
            go_quiet (fail)
            have HTa := Aside0.mk (HT.out.drew nq)
            have hx2 : (wr.drewN nq).cell? ad0 = _ := hx
            have hy2 : (wr.drewN nq).cell? ad1 = _ := hy
            clear hx hy
            generalize wr.drewN nq = Wa at HTa hx2 hy2 ⊢
            go_wp2_with fail
            go_quiet (fail)
            have HTd := Aside0.mk (HTa.out.drew nq)
            go_wp2_with (go_at_call 118; refine (HTd.out.keep b _).mono ?_; rintro e w' ⟨rfl, hto⟩; have HTO := Aside0.mk hto; clear hto)
            generalize w' = wo at HTO ⊢
            go_wp2_with fail
            go_quiet (fail)
            go_wp2_with fail
            go_roundw
            case measure => simp [slLen]; omega
            case rel =>
              obtain ⟨out', v', h⟩ := HTd.out.next b (rd m0 0) HC0'.out HC1'.out HV.out (by omega) HTO.out
              refine ⟨_, _, _, _, m0.drop 1, m1.drop 1, out', v', ?_, ?_, hl0', hl1', ⟨h.drew _⟩⟩
              · simp only [List.length_drop]
              · simp only [List.length_drop]
      · have HV := Aside0.mk (show merge f b s m0 m1 = (if f then [rd m0 0] else []) ++ merge f b s (m0.drop 1) m1 from by rw [List.eq_nil_of_length_eq_zero (show m1.length = 0 by omega)]; exact merge_ln f b s m0 h0)
        have z1 : ((m1.length : Int) == 0) = true := by rw [beq_iff_eq]; omega
        go_wp2_with fail
        go_quiet (fail)
        have HTd := Aside0.mk (HT.out.drew nq)
        go_wp2_with (go_at_call 118; refine (HTd.out.keep f _).mono ?_; rintro e w' ⟨rfl, hto⟩; have HTO := Aside0.mk hto; clear hto)
        go_roundw
        case measure => simp [slLen]; omega
        case rel =>
          obtain ⟨out', v', h⟩ := HTd.out.next f (rd m0 0) HC0'.out HTd.out.c1 HV.out (by omega) HTO.out
          exact ⟨_, _, _, _, _, _, out', v', by simp only [List.length_drop], by simp only [List.length_drop], hl0', hd1, ⟨h⟩⟩
    · have z0 : ((m0.length : Int) == 0) = true := by rw [beq_iff_eq]; omega
      have p0 : ¬ (0 : Int) < (m0.length : Int) := by omega
      have p0d : decide ((0 : Int) < (m0.length : Int)) = false := decide_eq_false p0
      have p0e : decide (0 < m0.length) = false := decide_eq_false h0
      by_cases h1 : 1 ≤ m1.length
      · obtain ⟨ad1, rfl, hy⟩ := at_int' HT.out.c1 HT.out.bel 0 (by omega) (by omega)
        simp only [Int.toNat_zero, Addr.add_zero'] at hy
        obtain ⟨B1', hcut1, hC1', hl1'⟩ := cut1 (some ad1) d1 m1 h1 hd1
        have HC1' := Aside0.mk (hC1' w HT.out.c1)
        have hdl1 : (m1.drop 1).length < m1.length := by rw [List.length_drop]; omega
        have z1 : ((m1.length : Int) == 0) = false := by rw [beq_eq_false_iff_ne]; omega
        have p1 : (0 : Int) < (m1.length : Int) := by omega
        have p1n : 0 < m1.length := h1
        have p1d : decide ((0 : Int) < (m1.length : Int)) = true := decide_eq_true p1
        clear hC1'
        have HV := Aside0.mk (show merge f b s m0 m1 = (if s then [rd m1 0] else []) ++ merge f b s m0 (m1.drop 1) from by rw [List.eq_nil_of_length_eq_zero (show m0.length = 0 by omega)]; exact merge_nr f b s m1 h1)
        go_wp2_with fail
        go_quiet (fail)
        have HTa := Aside0.mk (HT.out.drew nq)
        have hy2 : (wr.drewN nq).cell? ad1 = _ := hy
        clear hy
        generalize wr.drewN nq = Wa at HTa hy2 ⊢
        go_wp2_with fail
        go_quiet (fail)
        have HTd := Aside0.mk (HTa.out.drew nq)
        go_wp2_with (go_at_call 118; refine (HTd.out.keep s _).mono ?_; rintro e w' ⟨rfl, hto⟩; have HTO := Aside0.mk hto; clear hto)
        go_roundw
        case measure => simp [slLen]; omega
        case rel =>
          obtain ⟨out', v', h⟩ := HTd.out.next s (rd m1 0) HTd.out.c0 HC1'.out HV.out (by omega) HTO.out
          exact ⟨_, _, _, _, _, _, out', v', by simp only [List.length_drop], by simp only [List.length_drop], hd0, hl1', ⟨h⟩⟩
      · have z1 : ((m1.length : Int) == 0) = true := by rw [beq_iff_eq]; omega
        have p1 : ¬ (0 : Int) < (m1.length : Int) := by omega
        have p1d : decide ((0 : Int) < (m1.length : Int)) = false := decide_eq_false p1
        have p1e : decide (0 < m1.length) = false := decide_eq_false h1
        have hval : Aside0 (out = merge f b s l0 l1) := ⟨by
          have h := HT.out.val
          rw [List.eq_nil_of_length_eq_zero (show m0.length = 0 by omega), List.eq_nil_of_length_eq_zero (show m1.length = 0 by omega), merge_nn, List.append_nil] at h
          exact h⟩
        have hcb := cell_of_blk1 HT.out.box.blk
        have hfb := frozen_of_blk (i := 0) HT.out.box.blk
        obtain ⟨A2, c2, rfl, _, _⟩ := Kd.R_reads HT.out.box.row
        have hcs := cell_of_blk1 (blk1_set HT.out.box.blk (.slice A2 out.length c2))
        have hrow : Kd.R KI 3 (wr.setCell ⟨w.heap.size, 0, none⟩ (.slice A2 out.length c2)) w.heap.size AnyB (.slice A2 out.length c2) out := Kd.R_set HT.out.box.row HT.out.box.blk (fun q hq => by
          rcases List.mem_cons.1 hq with e | e
          · subst e; decide
          · exact absurd e (by simp [KI, Kd.int, Kd.scalar])) 0 _
        have hbel := HT.out.bel.setCell (p := ⟨w.heap.size, 0, none⟩) (Nat.le_refl _) (.slice A2 out.length c2)
        have HW := Aside0.mk (And.intro hrow hbel)
        clear hrow hbel
        go_wp2_with fail
        refine bodyPost_ret (v := .slice A2 out.length c2) (by simp [results, Tryz.results106, go_sem, hcs]) rfl ?_
        exact ⟨_, rfl, hval.out ▸ HW.out.1, HW.out.2⟩
end Go.Proofs.YtlmkgghpaaadhaaGreatDoor.G

set_option linter.unusedVariables false
set_option linter.unusedSimpArgs false
namespace Go.Proofs.YtlmkgghpaaadhaaGreatDoor.G
open Go.RowKit Go.Proofs.YtlmkgghpaaadhaaGreatDoorW.PrintWords Go.Proofs.YtlmkgghpaaadhaaGreatDoorW.PrintLast Go.Proofs.YtlmkgghpaaadhaaGreatDoorW.PrintMore

theorem tuple_Meet_any (A0 : Option Addr) (c0 : Nat) (l0 : List Int) (A1 : Option Addr) (c1 : Nat) (l1 : List Int) (w : World) (hr0 : Kd.C KI w A0 l0.length l0) (hc0 : l0.length ≤ c0) (hr1 : Kd.C KI w A1 l1.length l1) (hc1 : l1.length ≤ c1) (hm : l0.length + l1.length ≤ 1000000000) :
    Calls Tryz.prog 87 #[.slice A0 l0.length c0, .slice A1 l1.length c1] w fun e w' => ∃ v, e = .returned v ∧ Kd.R KI 3 w' w.heap.size AnyB v (merge false true false l0 l1) ∧ Below w.heap.size w w' := by
  have HR0 := Aside0.mk hr0
  have HR1 := Aside0.mk hr1
  have HM := Aside0.mk hm
  clear hr0 hr1 hm
  go_enter Tryz.func87, Tryz.ntmps87
  go_wp2_with (go_at_call 106; refine (merge_any A0 c0 l0 A1 c1 l1 false true false w HR0.out hc0 HR1.out hc1 HM.out).mono ?_; rintro e w' ⟨v, rfl, hv, hb⟩; have HV := Aside0.mk hv; have HB := Aside0.mk hb; clear hv hb)
  go_ret
  exact ⟨_, rfl, HV.out, HB.out⟩
end Go.Proofs.YtlmkgghpaaadhaaGreatDoor.G

/- slices.Sorted(slices.Values(l)): a new row that holds l's numbers, sorted. -/
set_option linter.unusedVariables false
set_option linter.unusedSimpArgs false
namespace Go.Proofs.YtlmkgghpaaadhaaGreatDoor.G
open Go.RowKit Go.Sort Go.Shelf Go.Proofs.YtlmkgghpaaadhaaGreatDoorW.PrintWords Go.Proofs.YtlmkgghpaaadhaaGreatDoorW.PrintLast Go.Proofs.YtlmkgghpaaadhaaGreatDoorW.PrintMore

set_option maxHeartbeats 1000000 in
set_option maxRecDepth 100000 in
/-- The iterator over a row: its numbers come, one by one, as long as the rounds leave alone what lay ahead. -/
theorem vals_gives (n : Nat) (hn : 1 ≤ n) (A0 : Option Addr) (c0 : Nat) (l0 : List Int) (Bm : Nat) (w : World) (hBm : Bm < w.heap.size) (hm : w.cell? ⟨Bm, 0, none⟩ = some (.slice A0 l0.length c0)) (hr : Kd.C KI w A0 l0.length l0) (hL : l0.length ≤ 1000000000)
    (l : Nat) (J : List Int → World → Prop) (W : World) (hW : Below w.heap.size w W)
    (hY : ∀ pre x W1, J pre W1 → pre.length < l0.length → YieldAt Fence.wide (n - 1) Tryz.prog l #[encZ x] W1 fun e W' => e = .returned (.bool true) ∧ J (pre ++ [x]) W' ∧ KeepsWalks W1 W')
    (hJ : ∀ pre W1, J pre W1 → Below w.heap.size w W1) (h0 : J [] W) :
    CallsIn Fence.wide n Tryz.prog 116 #[.func (.yield l) #[] #[], .pointer (some ⟨Bm, 0, none⟩)] W fun e W' => (∃ v, e = .returned v) ∧ J l0 W' := by
  have hm' : W.cell? ⟨Bm, 0, none⟩ = _ := (hW.cell (p := ⟨Bm, 0, none⟩) hBm).trans hm
  have HR := Aside0.mk hr
  clear hr
  refine callsIn_of_wp Tryz.func116 rfl trivial ?_ rfl
  simp only [Tryz.ntmps116, List.size_toArray, List.length_cons, List.length_nil, Nat.reduceAdd, Nat.reduceSub, Array.replicate_succ, Array.replicate_zero, List.push_toArray, List.append_toArray, List.nil_append, List.cons_append]
  gi_wp2
  clear hm'
  gi_loopw [7] (fun i wr => ∃ k : Nat, k ≤ l0.length ∧ i = .int .i64 k ∧ J (l0.take k) wr) (fun i _ => l0.length - (intOf i).toNat)
  case atStart => exact ⟨0, Nat.zero_le _, rfl, h0⟩
  case round =>
    obtain ⟨k, hk, rfl, hJk⟩ := hrel
    by_cases hlt : k < l0.length
    · obtain ⟨ad, rfl, hx⟩ := at_int' HR.out (hJ _ _ hJk) k (by omega) (by omega)
      simp only [Int.toNat_natCast] at hx
      obtain ⟨fn, tmps, assign, body, hy, hR⟩ := hY (l0.take k) (rd l0 k) wr hJk (by simp; omega)
      have ht := Aside0.mk (take_succ_rd l0 k hlt)
      gi_wp2
      refine hR.mono ?_
      rintro e W3 ⟨rfl, hJ3, hk3⟩
      gi_wp2
      go_roundw
      case rel => exact ⟨k + 1, by omega, by go_num, by rw [ht.out]; exact hJ3⟩
      case measure => simp [intOf]; omega
    · gi_wp2
      go_end0
      rw [List.take_of_length_le (by omega)] at hJk
      exact ⟨⟨_, rfl⟩, hJk⟩

theorem R_of_ints {w : World} {base : Nat} {v : Value} {xs : List Int} (h : w.ownsRow base 3 1 v xs.length (xs.map encZ)) : Kd.R KI 3 w base AnyB v xs :=
  ⟨fun _ _ => trivial, _, h, by simp [KI, Kd.int, Kd.scalar], fun j p hj => by
    show ((xs.map encZ).drop (j * 1)).take 1 = [encZ p]
    obtain ⟨hlt, rfl⟩ := List.getElem?_eq_some_iff.1 hj
    rw [Nat.mul_one, List.drop_eq_getElem_cons (by simpa using hlt)]
    simp⟩

set_option maxRecDepth 100000 in
set_option maxHeartbeats 2000000 in
/-- slices.AppendSeq(nil, seq) where seq is slices.Values's. -/
theorem appendSeq_values (n : Nat) (hn : 2 ≤ n) (A0 : Option Addr) (c0 : Nat) (l0 : List Int) (Bm : Nat) (w : World) (hBm : Bm < w.heap.size) (hm : w.cell? ⟨Bm, 0, none⟩ = some (.slice A0 l0.length c0)) (hr : Kd.C KI w A0 l0.length l0) (hL : l0.length ≤ 1000000000) :
    CallsIn Fence.wide n Tryz.prog 123 #[.slice none 0 0, .func (.func 116) #[] #[.pointer (some ⟨Bm, 0, none⟩)]] w fun e w' => ∃ v, e = .returned v ∧ w'.ownsRow w.heap.size 3 1 v l0.length (l0.map encZ) ∧ Below w.heap.size w w' := by
  have h1 : 1 ≤ n := by omega
  have HR := Aside0.mk hr
  clear hr
  refine callsIn_of_wp_marks Tryz.func123 rfl trivial ?_ rfl
  simp only [Tryz.ntmps123, List.size_toArray, List.length_cons, List.length_nil, Nat.reduceAdd, Nat.reduceSub, Array.replicate_succ, Array.replicate_zero, List.push_toArray, List.append_toArray, List.nil_append, List.cons_append]
  gi_wp2
  refine wpIn_rangeFunc ?_
  intro fn hfn
  generalize hsv : Value.func (.func 116) #[] #[.pointer (some ⟨Bm, 0, none⟩)] = sv
  generalize hW0 : w.alloc (.cells #[.slice none 0 0] 22) = W0
  have hs0 : W0.heap.size = w.heap.size + 1 := by rw [← hW0]; simp
  have hv0 : W0.heap[w.heap.size]? = some (.cells #[.slice none 0 0] 22 (0, 0)) := by rw [← hW0]; exact World.alloc_heap_new w _
  have hb0 : Below w.heap.size w W0 := by rw [← hW0]; exact (Below.refl _ w).alloc (Nat.le_refl _) _
  generalize hrec : (AnyZI.apRec Tryz.laysSd_ren fn sv w.heap.size W0.heap.size .ready none : Loop) = rec
  obtain ⟨W1, hW1⟩ : ∃ W1, (W0.alloc (.deferred (some []))).alloc (.loop rec) = W1 := ⟨_, rfl⟩
  have hold : ∀ k, k < W0.heap.size → W1.heap[k]? = W0.heap[k]? := fun k hk => by
    rw [← hW1]; exact (Below.heap_alloc _ _ k (by simp; omega)).trans (Below.heap_alloc _ _ k hk)
  have hb1 : Below w.heap.size w W1 := by rw [← hW1]; exact (hb0.alloc hb0.size _).alloc (by have := hb0.size; simp; omega) _
  have hM : AnyZI.ApAt Tryz.laysSd_ren w fn sv w.heap.size (W0.heap.size + 1) W0.heap.size [] W1 :=
    ⟨⟨_, (hold w.heap.size (by omega)).trans hv0, ⟨rfl, .inl ⟨rfl, rfl⟩⟩, by simp⟩,
     by rw [← hW1, hrec]; have := World.alloc_heap_new (W0.alloc (.deferred (some []))) (.loop rec); rwa [World.size_alloc] at this,
     by rw [← hW1]; exact (Below.heap_alloc _ _ _ (by simp)).trans (World.alloc_heap_new W0 _), hb1⟩
  refine ⟨W0.heap.size + 1, [{ target := .collected W0.heap.size, args := #[] }], W1, { target := .fn (.func 116) #[.pointer (some ⟨Bm, 0, none⟩)], args := #[.func (.yield (W0.heap.size + 1)) #[] #[]] }, W1, 116,
    #[.func (.yield (W0.heap.size + 1)) #[] #[], .pointer (some ⟨Bm, 0, none⟩)], W1, ?_, ?_, ?_, ?_, fun _ => h1, ?_⟩
  · rw [← hW1, ← hrec]; exact run_enterLoop_outer _ _ _ _ _
  · subst hsv; simp [resolve, go_sem]
  · intro f' hf'; trivial
  · have eg := enters_of Tryz.func116 (by kernel_rfl) rfl
    simp [invoke, go_sem, eg]
  · refine (vals_gives (n - 1) (by omega) A0 c0 l0 Bm w hBm hm HR.out hL (W0.heap.size + 1) (AnyZI.ApAt Tryz.laysSd_ren w fn sv w.heap.size (W0.heap.size + 1) W0.heap.size) W1 hb1
      (fun pre x W hJ hl => AnyZI.apYield { Tryz.laysSd with } Fence.wide (n - 1 - 1) w fn hfn _ w.heap.size (W0.heap.size + 1) W0.heap.size (by omega) (by omega) (by omega) (Nat.le_refl _) (by omega) l0.length (by unfold maxLen; omega) (by omega) pre x W hJ hl) (fun pre W h => h.below) hM).mono ?_
    rintro e W2 ⟨⟨v0, rfl⟩, h2⟩
    obtain ⟨v, hv, hrow, hnil⟩ := h2.box
    have hend := run_endLoop (P := Tryz.prog) h2.L (by simp [AnyZI.apRec])
    rw [hrec] at hend
    have hpn : rec.pending = none := by rw [← hrec]; rfl
    obtain ⟨W3, hW3⟩ : ∃ W3, W2.putObj (W0.heap.size + 1) (.loop { rec with state := .exhausted }) = W3 := ⟨_, rfl⟩
    rw [hW3] at hend
    have hg3 : W2.grownBy W3 (some (W0.heap.size + 1)) := by rw [← hW3]; exact grownBy_putObj_a _ _ _
    have hv3 : W3.heap[w.heap.size]? = some (.cells #[v] 22 (0, 0)) := by rw [← hW3]; exact (World.putObj_heap_other (by omega)).trans hv
    have hK3 : W3.heap[W0.heap.size]? = some (.deferred (some [])) := by rw [← hW3]; exact (World.putObj_heap_other (by omega)).trans h2.K
    have hrow3 := hrow.kept hg3 (ownsRow_ne_a hrow h2.L (fun cur e => by cases e))
    have hb3 : Below w.heap.size w W3 := h2.below.grown hg3 h2.below.size (fun k e => by cases e; omega)
    obtain ⟨hc3, hf3⟩ := cell_of_box_a hv3
    clear hW3
    refine ⟨none, W3, hpn ▸ hend, ?_⟩
    gi_wp2
    rw [← hs0]
    refine ⟨by simp, .inl ⟨_, _, rfl, run_takeDeferred hK3, ?_⟩⟩
    exact ⟨_, results_tmp rfl _ _ _, v, rfl, hrow3.kept (grownBy_putObj_a _ _ _) (ownsRow_ne_a hrow3 hK3 (fun cur e => by cases e)), hb3.grown (grownBy_putObj_a _ _ _) hb3.size (fun k e => by cases e; omega)⟩

/-- Numbers in their order, as often as they are there. -/
def sortI (l : List Int) : List Int := l.mergeSort fun x y => decide (x ≤ y)
theorem sortI_perm (l : List Int) : (sortI l).Perm l := List.mergeSort_perm _ _
theorem sortI_len (l : List Int) : (sortI l).length = l.length := (sortI_perm l).length_eq
theorem sortI_up (l : List Int) : (sortI l).Pairwise (· ≤ ·) := by
  have h := List.pairwise_mergeSort (le := fun x y : Int => decide (x ≤ y)) (fun a b c h1 h2 => by simp only [decide_eq_true_eq] at *; omega) (fun a b => by simp only [Bool.or_eq_true, decide_eq_true_eq]; omega) l
  exact h.imp fun h => by simpa using h

set_option maxHeartbeats 1000000 in
set_option maxRecDepth 100000 in
theorem sorted_values (A0 : Option Addr) (c0 : Nat) (l0 : List Int) (Bm : Nat) (w : World) (hBm : Bm < w.heap.size) (hm : w.cell? ⟨Bm, 0, none⟩ = some (.slice A0 l0.length c0)) (hr : Kd.C KI w A0 l0.length l0) (hL : l0.length ≤ 1000000000) :
    Calls Tryz.prog 96 #[.func (.func 116) #[] #[.pointer (some ⟨Bm, 0, none⟩)]] w fun e w' => ∃ v, e = .returned v ∧ Kd.R KI 3 w' w.heap.size AnyB v (sortI l0) ∧ Below w.heap.size w w' := by
  have cC : Calls Tryz.prog 114 #[.func (.func 116) #[] #[.pointer (some ⟨Bm, 0, none⟩)]] w fun e w' => ∃ v, e = .returned v ∧ w'.ownsRow w.heap.size 3 1 v l0.length (l0.map encZ) ∧ Below w.heap.size w w' := by
    have cA := (callsIn_wide (n := 6)).1 (appendSeq_values 6 (by omega) A0 c0 l0 Bm w hBm hm hr hL)
    go_enter Tryz.func114, Tryz.ntmps114
    go_wp2_with (go_at_call 123; refine cA.mono ?_; rintro e w' ⟨v, rfl, hv, hb⟩; have HV := Aside0.mk hv; have HB := Aside0.mk hb; clear hv hb)
    go_ret
    exact ⟨_, rfl, HV.out, HB.out⟩
  go_enter Tryz.func96, Tryz.ntmps96
  go_wp2_with (go_at_call 114; refine cC.mono ?_; rintro e w' ⟨v, rfl, hv, hb⟩; have HV := Aside0.mk hv; have HB := Aside0.mk hb; clear hv hb)
  rcases HV.out.2 with ⟨rfl, hz⟩ | ⟨gb, cap, cur, rfl, hbase, hgb, r1, r2, r3, r4⟩
  · have hss : l0 = [] := List.eq_nil_of_length_eq_zero hz
    subst hss
    go_wp2_with (go_at_call 115; refine (Tryz.slices_Sort_int_none none 0 _).mono ?_; rintro e w2 ⟨rfl, rfl⟩)
    go_ret
    exact ⟨_, rfl, (by rw [show sortI [] = [] from by simp [sortI]]; exact Kd.R_nil KI 3 w2 w.heap.size AnyB), HB.out⟩
  · have hH : Holds (Value.int .i64) w' gb 0 l0.toArray := holds_of_block_i hgb (by simpa using r4)
    have hgl : gb < w'.heap.size := (Array.getElem?_eq_some_iff.1 hgb).1
    have cS := Tryz.slices_Sort_int gb 0 cap l0 w' hH hgl (by omega)
    go_wp2_with (go_at_call 115; refine cS.mono ?_; rintro e w2 ⟨rfl, nn, os, rfl⟩)
    go_ret
    refine ⟨_, rfl, ?_, HB.out.grown (grownBy_sorted_i _) HB.out.size (fun j hj => by cases hj; exact hbase)⟩
    have h := ownsRow_sorted_i (os := os) (n := nn) (ss := l0) (ts := sortI l0) (sortI_len l0) hbase hgb r1 r2 r3
    have := R_of_ints (xs := sortI l0) (w := grow (putRow encZ (Sort.ahead w' nn) gb 0 (sortI l0).toArray) os) (base := w.heap.size) (v := .slice (some ⟨gb, 0, none⟩) l0.length cap) (by rw [sortI_len]; exact h)
    exact this
end Go.Proofs.YtlmkgghpaaadhaaGreatDoor.G

set_option linter.unusedVariables false
set_option linter.unusedSimpArgs false
namespace Go.Proofs.YtlmkgghpaaadhaaGreatDoor.G
open Go.RowKit Go.Sort Go.Shelf Go.Proofs.YtlmkgghpaaadhaaGreatDoorW.PrintWords Go.Proofs.YtlmkgghpaaadhaaGreatDoorW.PrintLast Go.Proofs.YtlmkgghpaaadhaaGreatDoorW.PrintMore

theorem R_ints {w : World} {base : Nat} {v : Value} {xs : List Int} (h : Kd.R KI 3 w base AnyB v xs) : w.ownsRow base 3 1 v xs.length (xs.map encZ) := by
  obtain ⟨_, inner, ho, hl, hr⟩ := h
  have hl' : inner.length = xs.length := by rw [hl]; exact Nat.mul_one _
  have : inner = xs.map encZ := by
    refine List.ext_getElem (by simp [hl']) fun j h1 h2 => ?_
    have hj : j < xs.length := by omega
    have h3 : (inner.drop (j * 1)).take 1 = [encZ xs[j]] := hr j xs[j] (List.getElem?_eq_getElem hj)
    rw [Nat.mul_one, List.drop_eq_getElem_cons h1] at h3
    simp only [List.take_succ_cons, List.take_zero, List.cons.injEq, and_true] at h3
    simpa using h3
  rw [← this]; exact ho

theorem compactI_any (base : Nat) (v : Value) (zs : List Int) (w : World) (h : Kd.R KI 3 w base AnyB v zs) (hm : zs.length ≤ 1000000000) :
    Calls Tryz.prog 95 #[v] w fun e w' => ∃ v', e = .returned v' ∧ Kd.R KI 3 w' base AnyB v' (Lib.compact zs) ∧ Below base w w' := by
  rcases (R_ints h).2 with ⟨rfl, hz⟩ | ⟨g, cap, cur, rfl, hbase, hgb, r1, r2, r3, r4⟩
  · have hss : zs = [] := List.eq_nil_of_length_eq_zero hz
    subst hss
    refine (Tryz.slices_Compact_int_empty none 0 w).mono ?_
    rintro e w' ⟨rfl, rfl⟩
    exact ⟨_, rfl, Kd.R_nil _ _ _ _ _, Below.refl _ _⟩
  · have hH : Holds (Value.int .i64) w g 0 zs.toArray := holds_of_block_i hgb (by simpa using r4)
    refine (Tryz.slices_Compact_int g 0 cap zs w hH (by omega) r1).mono ?_
    rintro e w' ⟨rfl, q, rfl⟩
    have hcl := Lib.compact_length_le zs
    generalize Lib.compact zs = cs at *
    obtain ⟨ts, hts⟩ : ∃ ts, ts = cs ++ List.replicate (zs.length - cs.length) 0 := ⟨_, rfl⟩
    have htl : ts.length = zs.length := by rw [hts]; simp; omega
    rw [← hts]
    have hgrow : ∀ W : World, grow W #[] = W := fun W => by simp [grow]
    have ho := ownsRow_sorted_i (n := q) (os := #[]) htl hbase hgb r1 r2 r3
    have hg := grownBy_sorted_i (w := w) (g := g) (n := q) (os := #[]) ts.toArray
    rw [hgrow] at ho hg
    refine ⟨_, rfl, R_of_ints ?_, (Below.refl base w).grown hg (Nat.le_trans hbase (Nat.le_of_lt (Array.getElem?_eq_some_iff.1 hgb).1)) (fun j hj => by cases hj; exact hbase)⟩
    rcases ho.2 with ⟨e, _⟩ | ⟨g', cap', cur', e, hbase', hgb', s1, s2, s3, s4⟩
    · cases e
    · injection e with e1 e2 e3
      injection e1 with e1
      injection e1 with e1
      subst e1; subst e3
      refine ⟨by simp, .inr ⟨g, cap, cur', rfl, hbase, hgb', Nat.le_trans hcl r1, s2, s3, ?_⟩⟩
      have h5 := congrArg (List.take cs.length) s4
      rw [List.take_take, Nat.mul_one, Nat.min_eq_left hcl] at h5
      rw [Nat.mul_one, h5, ← List.map_take, hts]
      simp

/-- Behind the sort: each number once, rising. -/
theorem compactUpTo_up (zs : List Int) (hs : zs.Pairwise (· ≤ ·)) (m : Nat) (hm : m ≤ zs.length) : (Lib.compactUpTo zs.toArray m).Pairwise (· < ·) ∧ ∀ x, x ∈ Lib.compactUpTo zs.toArray m ↔ x ∈ zs.take m := by
  induction m with
  | zero => simp [Lib.compactUpTo]
  | succ m ih =>
    obtain ⟨h1, h2⟩ := ih (by omega)
    have hlt : m < zs.length := by omega
    have hget : zs.toArray[m]! = zs[m] := by simp [hlt]
    rw [Lib.compactUpTo_succ, List.take_succ_eq_append_getElem hlt]
    by_cases hk : m = 0 ∨ zs.toArray[m]! ≠ zs.toArray[m - 1]!
    · have hkb : Lib.keeps zs.toArray m = true := decide_eq_true hk
      rw [if_pos hkb, hget]
      refine ⟨List.pairwise_append.2 ⟨h1, List.pairwise_singleton _ _, fun x hx y hy => ?_⟩, fun x => by simp only [List.mem_append, h2]⟩
      rw [List.mem_singleton.1 hy]
      obtain ⟨j, hj, rfl⟩ := List.mem_take_iff_getElem.1 ((h2 x).1 hx)
      have hjm : j < m := by omega
      have hm0 : m ≠ 0 := by omega
      have hget' : zs.toArray[m - 1]! = zs[m - 1] := by simp [show m - 1 < zs.length by omega]
      have hne : zs[m] ≠ zs[m - 1] := by
        rcases hk with hk | hk
        · exact absurd hk hm0
        · rwa [hget, hget'] at hk
      have hle : ∀ a b (ha : a < zs.length) (hb : b < zs.length), a ≤ b → zs[a] ≤ zs[b] := fun a b ha hb hab => by
        rcases Nat.lt_or_ge a b with h | h
        · exact List.pairwise_iff_getElem.1 hs a b ha hb h
        · have : a = b := by omega
          subst this; exact Int.le_refl _
      have a1 := hle j (m - 1) (by omega) (by omega) (by omega)
      have a2 := hle (m - 1) m (by omega) hlt (by omega)
      omega
    · have hkb : Lib.keeps zs.toArray m = false := decide_eq_false hk
      have hm0 : 0 < m := by omega
      have heq : zs.toArray[m]! = zs.toArray[m - 1]! := by
        by_cases e : zs.toArray[m]! = zs.toArray[m - 1]!
        · exact e
        · exact absurd (.inr e) hk
      have hget' : zs.toArray[m - 1]! = zs[m - 1] := by simp [show m - 1 < zs.length by omega]
      rw [hget, hget'] at heq
      rw [if_neg (by simp [hkb]), List.append_nil]
      refine ⟨h1, fun x => ?_⟩
      rw [h2]
      simp only [List.mem_append, List.mem_singleton]
      refine ⟨.inl, fun h => h.elim id fun e => ?_⟩
      rw [e, heq]
      exact List.mem_take_iff_getElem.2 ⟨m - 1, by omega, rfl⟩

/-- A row's numbers, each once, rising. -/
def uniqI (l : List Int) : List Int := Lib.compact (sortI l)
theorem uniqI_spec (l : List Int) : (uniqI l).Pairwise (· < ·) ∧ ∀ x, x ∈ uniqI l ↔ x ∈ l := by
  have h := compactUpTo_up (sortI l) (sortI_up l) (sortI l).length (Nat.le_refl _)
  rw [List.take_length] at h
  exact ⟨h.1, fun x => (h.2 x).trans (sortI_perm l).mem_iff⟩
theorem uniqI_len (l : List Int) : (uniqI l).length ≤ l.length := by have := Lib.compact_length_le (sortI l); rw [sortI_len] at this; exact this
end Go.Proofs.YtlmkgghpaaadhaaGreatDoor.G

/- What the functions of rel compute, as plain functions; right relations. -/
set_option linter.unusedVariables false
set_option linter.unusedSimpArgs false
namespace Go.Proofs.YtlmkgghpaaadhaaGreatDoor.G
open Go.RowKit Go.Proofs.YtlmkgghpaaadhaaGreatDoorW.PrintWords Go.Proofs.YtlmkgghpaaadhaaGreatDoorW.PrintLast Go.Proofs.YtlmkgghpaaadhaaGreatDoorW.PrintMore

theorem getD_get (L : List (List Int)) (k : Nat) (h : k < L.length) : L.getD k [] = L[k] := by rw [List.getD_eq_getElem?_getD, List.getElem?_eq_getElem h]; rfl
def Short (n : Nat) (rows : List (List Int)) : Prop := ∃ x ∈ rows, x.length ≠ n
instance (n : Nat) (rows : List (List Int)) : Decidable (Short n rows) := by unfold Short; infer_instance
/-- Make's answer: a relation, and an error's number. -/
def MakeTo (w w' : World) (e : Ending) (r : List Int × List (List Int)) (err : Int) : Prop := ∃ v, e = .returned (.tuple #[v, .int .i64 err]) ∧ RelM w' w.heap.size v r ∧ Below w.heap.size w w'
/-- A relation is right. -/
def RightP (sc : List Int) (rows : List (List Int)) : Prop := (Rise sc ∧ ¬ (0 < sc.length ∧ rd sc 0 < 0)) ∧ (∀ t ∈ rows, t.length = sc.length) ∧ Pl.Up rows
instance (sc : List Int) (rows : List (List Int)) : Decidable (RightP sc rows) := by unfold RightP Pl.Up Pl.lt; infer_instance
def onto (sc vars : List Int) : List Int := merge false true false sc (uniqI vars)
def projRel (sc : List Int) (rows : List (List Int)) (vars : List Int) : List Int × List (List Int) := (onto sc vars, cutRows sc rows (onto sc vars))
theorem merge_len (f b s : Bool) (l m : List Int) : (merge f b s l m).length ≤ l.length + m.length := by
  induction l, m using merge.induct <;> unfold merge
  · simp
  · rename_i x l ih; simp only [List.length_append, List.length_cons]; split <;> simp <;> simp at ih <;> omega
  · rename_i y m ih; simp only [List.length_append, List.length_cons]; split <;> simp <;> simp at ih <;> omega
  · rename_i x l y m h ih; rw [if_pos h]; simp only [List.length_append, List.length_cons] at *; split <;> simp <;> omega
  · rename_i x l y m h h2 ih; rw [if_neg h, if_pos h2]; simp only [List.length_append, List.length_cons] at *; split <;> simp <;> omega
  · rename_i x l y m h h2 ih; rw [if_neg h, if_neg h2]; simp only [List.length_append, List.length_cons] at *; split <;> simp <;> omega
theorem values_any (v : Value) (hv : ∃ A n c, v = .slice A n c) (w : World) :
    Calls Tryz.prog 97 #[v] w fun e w' => e = .returned (.func (.func 116) #[] #[.pointer (some ⟨w.heap.size, 0, none⟩)]) ∧ Below w.heap.size w w' ∧ w.heap.size < w'.heap.size ∧ w'.cell? ⟨w.heap.size, 0, none⟩ = some v := by
  obtain ⟨A, n, c, rfl⟩ := hv
  go_enter Tryz.func97, Tryz.ntmps97
  go_wp2
  go_ret
  exact ⟨rfl, below_alloc (Below.refl _ _) _, by simp, cell_of_blk1 (heap_alloc_new w _)⟩
end Go.Proofs.YtlmkgghpaaadhaaGreatDoor.G

/- Plain laws of relations: what is cut, selected, united, made. No program in sight. -/
set_option linter.unusedVariables false
set_option linter.unusedSimpArgs false
namespace Go.Proofs.YtlmkgghpaaadhaaGreatDoor.G
open Go.RowKit Go.Proofs.YtlmkgghpaaadhaaGreatDoorW.PrintWords Go.Proofs.YtlmkgghpaaadhaaGreatDoorW.PrintLast Go.Proofs.YtlmkgghpaaadhaaGreatDoorW.PrintMore
theorem memF {α : Type} {l : List α} {p : α → Bool} {x : α} (h : x ∈ l.filter p) : x ∈ l := (List.mem_filter.1 h).1

/-! ### what two rising rows share -/
theorem merge_meet (l m : List Int) : Rise l → Rise m → merge false true false l m = l.filter fun x => decide (x ∈ m) := by
  induction l, m using merge.induct with
  | case1 => intro _ _; unfold merge; rfl
  | case2 x l ih =>
    intro h1 h2
    unfold merge
    rw [ih (List.pairwise_cons.1 h1).2 h2]
    simp
  | case3 y m ih =>
    intro h1 h2
    unfold merge
    rw [ih h1 (List.pairwise_cons.1 h2).2]
    simp
  | case4 x l y m h ih =>
    intro h1 h2
    have h1' := List.pairwise_cons.1 h1
    have h2' := List.pairwise_cons.1 h2
    unfold merge
    rw [if_pos h, ih h1'.2 h2]
    have hx : ¬ x ∈ y :: m := fun hx => by
      rcases List.mem_cons.1 hx with e | e
      · omega
      · have := h2'.1 x e; omega
    rw [List.filter_cons_of_neg (by simpa using hx)]
    rfl
  | case5 x l y m h h' ih =>
    intro h1 h2
    have h1' := List.pairwise_cons.1 h1
    have h2' := List.pairwise_cons.1 h2
    unfold merge
    rw [if_neg h, if_pos h', ih h1 h2'.2]
    refine List.filter_congr fun z hz => ?_
    have hzy : z ≠ y := by
      rcases List.mem_cons.1 hz with e | e
      · omega
      · have := h1'.1 z e; omega
    simp [hzy]
  | case6 x l y m h h' ih =>
    intro h1 h2
    have h1' := List.pairwise_cons.1 h1
    have h2' := List.pairwise_cons.1 h2
    have e : x = y := by omega
    subst e
    unfold merge
    rw [if_neg h, if_neg h', ih h1'.2 h2'.2, List.filter_cons_of_pos (by simp)]
    simp only [if_true, List.singleton_append]
    congr 1
    refine List.filter_congr fun z hz => ?_
    have hzx : z ≠ x := by have := h1'.1 z hz; omega
    simp [hzx]
theorem onto_eq (sc vars : List Int) (h : Rise sc) : onto sc vars = sc.filter fun x => decide (x ∈ vars) := by
  unfold onto
  rw [merge_meet sc (uniqI vars) h (uniqI_spec vars).1]
  exact List.filter_congr fun z _ => by rw [decide_eq_decide, (uniqI_spec vars).2]
theorem Rise.filter {l : List Int} (h : Rise l) (p : Int → Bool) : Rise (l.filter p) := List.Pairwise.filter p h
theorem Rise.nodup {l : List Int} (h : Rise l) : l.Nodup := List.Pairwise.imp (fun {a b} (hab : a < b) => by omega) h

/-! ### the value that a row has of a variable -/
def look (sc t : List Int) (v : Int) : Int := rd t (idx sc v)
theorem idx_in {sc : List Int} {v : Int} (h : v ∈ sc) : idx sc v = ((sc.idxOf v : Nat) : Int) ∧ sc.idxOf v < sc.length := ⟨if_pos h, List.idxOf_lt_length_of_mem h⟩
theorem idx_out {sc : List Int} {v : Int} (h : ¬ v ∈ sc) : idx sc v = -1 := if_neg h
theorem look_map {on : List Int} {v : Int} (h : v ∈ on) (f : Int → Int) : look on (on.map f) v = f v := by
  obtain ⟨h1, h2⟩ := idx_in h
  unfold look
  rw [h1, rd_get _ _ (by simpa using h2), List.getElem_map, List.getElem_idxOf]
theorem look_self {sc t : List Int} (hs : sc.Nodup) (ht : t.length = sc.length) : sc.map (look sc t) = t := by
  refine List.ext_getElem (by simp [ht]) fun i h1 h2 => ?_
  rw [List.getElem_map]
  have hi : i < sc.length := by simpa using h1
  unfold look
  rw [(idx_in (List.getElem_mem hi)).1, List.Nodup.idxOf_getElem hs, rd_get _ _ h2]
theorem pick_look (sc t on : List Int) (ht : t.length = sc.length) (ho : ∀ v ∈ on, v ∈ sc) : pick t (on.map (idx sc)) = on.map (look sc t) := by
  induction on with
  | nil => rfl
  | cons v on ih =>
    obtain ⟨h1, h2⟩ := idx_in (ho v List.mem_cons_self)
    have ih' := ih fun u hu => ho u (List.mem_cons_of_mem _ hu)
    unfold pick at ih' ⊢
    rw [List.map_cons, List.filterMap_cons_some (b := look sc t v) (by rw [if_pos (by omega)]; rfl), ih', List.map_cons]
/-! ### right relations -/
/-! ### RelTwice -/
/-! ### RelPasses -/
/-! ### RelTurned -/
theorem rise_perm {l m : List Int} (hl : l.Pairwise (· ≤ ·)) (hm : Rise m) (h : l.Perm m) : l = m :=
  h.eq_of_pairwise (le := (· ≤ ·)) (fun a b _ _ h1 h2 => by omega) hl (hm.imp fun {a b} (hab : a < b) => by omega)
/-! ### RelUnites -/
/-! ### RelSelects -/
end Go.Proofs.YtlmkgghpaaadhaaGreatDoor.G
