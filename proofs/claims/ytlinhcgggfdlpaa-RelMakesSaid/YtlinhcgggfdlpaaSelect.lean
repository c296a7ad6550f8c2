/- rel.Select: the rows that have a value. -/
import Derived.Test.YtlinhcgggfdlpaaUnion
import Derived.Test.YtlinhcgggfdlpaaSame
import Derived.Deep.AppendLies
set_option linter.unusedVariables false
set_option linter.unusedSimpArgs false
namespace Go.Proofs.Ytlinhcgggfdlpaa.G
open Go.RowKit Go.Proofs.YtlinhcgggfdlpaaW.PrintWords Go.Proofs.YtlinhcgggfdlpaaW.PrintLast Go.Proofs.YtlinhcgggfdlpaaW.PrintMore

def selKeeps (at_ value : Int) (t : List Int) : Bool := decide (at_ < 0 ∨ at_ < (t.length : Int) ∧ rd t at_ = value)
def selRel (sc : List Int) (rows : List (List Int)) (v value : Int) : List Int × List (List Int) := (sc, rows.filter (selKeeps (idx sc v) value))

/-- What stays through Select: the argument's box, and a box for the answer. -/
structure SelInv (w : World) (a0 a1 : Value) (W : World) : Prop where
  bel : Below w.heap.size w W
  A : W.heap[w.heap.size]? = some (.cells #[a0, a1] 25 (0, 0))
  C : W.heap[w.heap.size + 1]? = some (.cells #[.slice none 0 0, .slice none 0 0] 25 (0, 0))
theorem SelInv.step {w W W1 : World} {a0 a1 : Value} (h : SelInv w a0 a1 W) (hb : Below W.heap.size W W1) : SelInv w a0 a1 W1 :=
  ⟨below_then h.bel h.bel.size hb, (hb.block _ (Array.getElem?_eq_some_iff.1 h.A).1).trans h.A, (hb.block _ (Array.getElem?_eq_some_iff.1 h.C).1).trans h.C⟩
theorem SelInv.all {w W : World} {a0 a1 : Value} (h : SelInv w a0 a1 W) : W.cell? ⟨w.heap.size, 0, none⟩ = some a0 ∧ SelInv w a0 a1 W := ⟨blk2_c0 h.A, h⟩
theorem SelInv.out_step {w W W1 : World} {a0 a1 : Value} (h : W.cell? ⟨w.heap.size, 0, none⟩ = some a0 ∧ SelInv w a0 a1 W) (hb : Below W.heap.size W W1) : W1.cell? ⟨w.heap.size, 0, none⟩ = some a0 ∧ SelInv w a0 a1 W1 := (h.2.step hb).all
theorem SelInv.set {w W : World} {a0 a1 : Value} (h : SelInv w a0 a1 W) (g i : Nat) (hg : w.heap.size + 1 < g) (u : Value) : SelInv w a0 a1 (W.setCell ⟨g, i, none⟩ u) :=
  ⟨h.bel.setCell (p := ⟨g, i, none⟩) (show w.heap.size ≤ g by omega) u, (Below.heap_setCell _ _ _ _ (by simp; omega)).trans h.A, (Below.heap_setCell _ _ _ _ (by simp; omega)).trans h.C⟩
theorem SelInv.start (w : World) (a0 a1 : Value) : SelInv w a0 a1 ((w.alloc (.cells #[a0, a1] 25)).alloc (.cells #[.slice none 0 0, .slice none 0 0] 25)) := by
  have h1 := heap_alloc_new w (.cells #[a0, a1] 25)
  have h2 := heap_alloc_new (w.alloc (.cells #[a0, a1] 25)) (.cells #[.slice none 0 0, .slice none 0 0] 25)
  simp only [World.size_alloc] at h2
  exact ⟨below_alloc (below_alloc (Below.refl _ _) _) _, (Below.heap_alloc _ _ _ (by simp)).trans h1, h2⟩

/-- Between two rounds: the answer's box in block g, its rows apart from it. -/
structure SelOut (w : World) (a0 a1 : Value) (g : Nat) (s0 : Value) (sc : List Int) (s1 : Value) (xs : List (List Int)) (W : World) : Prop where
  inv : SelInv w a0 a1 W
  lt : w.heap.size + 1 < g
  blk : W.heap[g]? = some (.cells #[s0, s1] 25 (0, 0))
  row : Kd.R KI 3 W (w.heap.size + 2) AnyB s0 sc
  rows : Kd.N KL 22 W (w.heap.size + 2) (fun k => w.heap.size + 2 ≤ k ∧ k ≠ g) s1 xs
theorem SelOut.start1 {w W2 : World} {a0 a1 s0 : Value} {sc : List Int} {base : Nat} (h : SelInv w a0 a1 W2) (hr : Kd.R KI 3 W2 base AnyB s0 sc) (hb : w.heap.size + 2 ≤ base) : SelOut w a0 a1 W2.heap.size s0 sc (.slice none 0 0) [] (W2.alloc (.cells #[s0, .slice none 0 0] 25)) :=
  ⟨h.step (below_alloc (Below.refl _ _) _), (Array.getElem?_eq_some_iff.1 h.C).1, heap_alloc_new W2 _, Kd.R_lower (Kd.R_below hr (below_alloc (Below.refl _ _) _)) hb, Kd.N_nil _ _ _ _ _⟩
theorem SelOut.start2 {w W2 : World} {a0 a1 s0 : Value} {sc : List Int} {base g : Nat} (h : SelInv w a0 a1 W2) (hr : Kd.R KI 3 W2 base AnyB s0 sc) (hb : w.heap.size + 2 ≤ base) (hg : w.heap.size + 1 < g) (hk : W2.heap[g]? = some (.cells #[.slice none 0 0, .slice none 0 0] 25 (0, 0))) :
    SelOut w a0 a1 g s0 sc (.slice none 0 0) [] ((W2.setCell ⟨g, 0, none⟩ s0).setCell ⟨g, 1, none⟩ (.slice none 0 0)) :=
  ⟨(h.set g 0 hg _).set g 1 hg _, hg, blk2_s1 (blk2_s0 hk _) _, Kd.R_lower (Kd.R_set (Kd.R_set hr hk (int_ty _ (by decide)) 0 _) (blk2_s0 hk _) (int_ty _ (by decide)) 1 _) hb, Kd.N_nil _ _ _ _ _⟩

theorem R_apart {W w1 : World} {base : Nat} {s0 u : Value} {sc : List Int} (h : Kd.R KI 3 W base AnyB s0 sc) (hg : W.grownBy w1 u.ownBlock) (ht : ∀ k, u.ownBlock = some k → ∃ cells, W.heap[k]? = some (.cells cells 22 (0, 0))) : Kd.R KI 3 w1 base AnyB s0 sc := by
  cases hu : u.ownBlock with
  | none => rw [hu] at hg; exact Kd.R_grown h hg (fun k _ e => by cases e)
  | some b =>
    obtain ⟨cells, hc⟩ := ht b hu
    rw [hu] at hg
    exact Kd.R_mono (Kd.R_grown (Kd.R_types h hc (int_ty _ (by decide))) hg (fun k hk e => hk.2 (Option.some.inj e))) (fun _ hk => hk.1)
theorem SelOut.at1 {w W W4 w1 : World} {a0 a1 : Value} {g : Nat} {s0 s1 : Value} {sc : List Int} {xs : List (List Int)} (h : SelOut w a0 a1 g s0 sc s1 xs W) (hb : Below W.heap.size W W4) (hg : W4.grownBy w1 s1.ownBlock) : w1.heap[g]? = some (.cells #[s0, s1] 25 (0, 0)) := by
  have hgl := (Array.getElem?_eq_some_iff.1 h.blk).1
  exact (hg.block g (Nat.lt_of_lt_of_le hgl hb.size) (Kd.N_away h.rows (fun k hk => hk.2))).trans ((hb.block g hgl).trans h.blk)
theorem SelOut.push {w W W4 w1 : World} {a0 a1 : Value} {g : Nat} {s0 s1 v1 : Value} {sc : List Int} {xs ys : List (List Int)} (h : SelOut w a0 a1 g s0 sc s1 xs W) (hb : Below W.heap.size W W4) (hg : W4.grownBy w1 s1.ownBlock)
    (hN : Kd.N KL 22 w1 (w.heap.size + 2) (fun k => w.heap.size + 2 ≤ k ∧ k ≠ g) v1 ys) : SelOut w a0 a1 g s0 sc v1 ys (w1.setCell ⟨g, 1, none⟩ v1) := by
  have hi4 := h.inv.step hb
  have hal := (Array.getElem?_eq_some_iff.1 hi4.A).1
  have hcl := (Array.getElem?_eq_some_iff.1 hi4.C).1
  have hne : ∀ k, k < w.heap.size + 2 → some k ≠ s1.ownBlock := fun k hk e => by have := Kd.N_base h.rows k e.symm; omega
  have hbl : Below w.heap.size w w1 := hi4.bel.grown hg hi4.bel.size (fun k e => by have := Kd.N_base h.rows k e; omega)
  have hi1 : SelInv w a0 a1 w1 := ⟨hbl, (hg.block _ hal (hne _ (by omega))).trans hi4.A, (hg.block _ hcl (hne _ (by omega))).trans hi4.C⟩
  have hb1 := h.at1 hb hg
  have hr1 : Kd.R KI 3 w1 (w.heap.size + 2) AnyB s0 sc := R_apart (Kd.R_below h.row hb) hg (fun k e => by
    obtain ⟨cells, hc⟩ := Kd.N_typed (Kd.N_below h.rows hb) k e
    exact ⟨cells, hc⟩)
  exact ⟨hi1.set g 1 h.lt v1, h.lt, blk2_s1 hb1 v1, Kd.R_set hr1 hb1 (int_ty _ (by decide)) 1 v1, Kd.N_far hN (p := ⟨g, 1, none⟩) (fun k hk => hk.2) v1⟩

theorem filter_take_in (p : List Int → Bool) (L : List (List Int)) (k : Nat) (h : k < L.length) (hp : p (L.getD k []) = true) : (L.take (k + 1)).filter p = (L.take k).filter p ++ [L.getD k []] := by
  rw [getD_get _ _ h] at hp ⊢
  rw [List.take_succ_eq_append_getElem h, List.filter_append]
  simp [hp]
theorem filter_take_out (p : List Int → Bool) (L : List (List Int)) (k : Nat) (h : k < L.length) (hp : p (L.getD k []) = false) : (L.take (k + 1)).filter p = (L.take k).filter p := by
  rw [getD_get _ _ h] at hp
  rw [List.take_succ_eq_append_getElem h, List.filter_append]
  simp [hp]

set_option maxHeartbeats 1000000 in
set_option maxRecDepth 100000 in
theorem select_any (A0 : Option Addr) (c0 : Nat) (sc : List Int) (A1 : Option Addr) (c1 : Nat) (rows : List (List Int)) (v value : Int) (w : World) (hr0 : Kd.C KI w A0 sc.length sc) (hr1 : Kd.C KL w A1 rows.length rows)
    (hm : sc.length ≤ 1000000000) (hm1 : rows.length ≤ 1000000000) (hx : ∀ x ∈ rows, x.length < 17592186044416) :
    Calls Try.prog 26 #[.agg #[.slice A0 sc.length c0, .slice A1 rows.length c1], .int .i64 v, .int .i64 value] w fun e w' => ∃ u, e = .returned u ∧ RelM w' w.heap.size u (selRel sc rows v value) ∧ Below w.heap.size w w' := by
  have HR := Aside0.mk (And.intro hr0 hr1)
  have HX := Aside0.mk hx
  clear hr0 hr1 hx
  obtain ⟨W0, hW0⟩ : ∃ W0, (w.alloc (.cells #[.slice A0 sc.length c0, .slice A1 rows.length c1] 25)).alloc (.cells #[.slice none 0 0, .slice none 0 0] 25) = W0 := ⟨_, rfl⟩
  have hI0 : SelInv w (.slice A0 sc.length c0) (.slice A1 rows.length c1) W0 := by rw [← hW0]; exact SelInv.start _ _ _
  have HI0 := Aside0.mk hI0
  have hI := hI0.all
  clear hI0
  go_enter Try.func26, Try.ntmps26
  go_wp2
  clear hW0
  obtain ⟨r0, _⟩ := HI0.out.all
  have HSD := Aside0.mk (SelInv.out_step hI (below_drew (Below.refl _ _)))
  have hg0 := (Array.getElem?_eq_some_iff.1 HI0.out.C).1
  go_region_held3 (fun W => W.cell? ⟨w.heap.size, 0, none⟩ = some (.slice A0 sc.length c0) ∧ SelInv w (.slice A0 sc.length c0) (.slice A1 rows.length c1) W)
      (first | with_reducible exact HS2A.out | with_reducible exact SelInv.out_step HS2A.out (below_alloc (Below.refl _ _) _) | with_reducible exact SelInv.out_step HSD.out (below_alloc (Below.refl _ _) _) | with_reducible exact SelInv.all (SelInv.set (SelInv.set HS2A.out.2 _ 0 (by first | exact hg2 | exact hg0) _) _ 1 (by first | exact hg2 | exact hg0) _) | with_reducible exact SelInv.all (SelInv.set (SelInv.set (And.right (by assumption)) _ 0 (by first | exact hg2 | exact hg0) _) _ 1 (by first | exact hg2 | exact hg0) _) | with_reducible exact SelInv.out_step (by assumption) (below_alloc (Below.refl _ _) _) | with_reducible exact SelInv.out_step (by assumption) (below_drew (Below.refl _ _)) | with_reducible assumption)
      (first
        | (go_at_call 55; refine (slices_Index_any A0 c0 sc v _ (Kd.C_below HR.out.1 (And.right (show _ ∧ SelInv w _ _ _ by assumption)).bel)).mono ?_; rintro e w2 ⟨rfl, rfl⟩)
        | (go_at_call 48; refine (slices_Clone_any A0 c0 sc _ (Kd.C_below HR.out.1 (And.right (show _ ∧ SelInv w _ _ _ by assumption)).bel) (by omega)).mono ?_; rintro e w2 ⟨v2, rfl, hv2, hb2⟩; obtain ⟨A5, c5, rfl, _, _⟩ := Kd.R_reads hv2; have HV2 := Aside0.mk hv2; have hS2 := SelInv.out_step (by assumption) hb2; have HS2A := Aside0.mk hS2; have hg2 := (Array.getElem?_eq_some_iff.1 hS2.2.C).1; clear hv2 hS2; try (have hbk : w2.heap[W0.heap.size]? = some (.cells #[.slice none 0 0, .slice none 0 0] 25 (0, 0)) := (hb2.block W0.heap.size (by simp)).trans (heap_alloc_new W0.drew _); have p0 := blk2_c0 hbk; have p1 := blk_fr (i := 0) hbk; have hs0 := blk2_s0 hbk (.slice A5 sc.length c5); have p2 := blk2_c1 hs0; have p3 := blk_fr (i := 1) hs0; have HBK := Aside0.mk hbk; clear hbk hs0)))
  all_goals
    have hb2s := hb2.size
    have HO : ∃ g W3, Aside0 (SelOut w (.slice A0 sc.length c0) (.slice A1 rows.length c1) g (.slice A5 sc.length c5) sc (.slice none 0 0) [] W3) := by
      first
      | exact ⟨_, _, ⟨SelOut.start1 HS2A.out.2 HV2.out (by simp; omega)⟩⟩
      | exact ⟨_, _, ⟨SelOut.start2 HS2A.out.2 HV2.out (by simp; omega) hg0 HBK.out⟩⟩
    clear HO
    first
    | (have HO := Aside0.mk (SelOut.start2 HS2A.out.2 HV2.out (by simp; omega) hg0 HBK.out); clear HBK p0 p1 p2 p3; generalize (w2.setCell ⟨W0.heap.size, 0, none⟩ (.slice A5 sc.length c5)).setCell ⟨W0.heap.size, 1, none⟩ (.slice none 0 0) = W3 at HO ⊢; generalize W0.heap.size = g at HO ⊢)
    | (have HO := Aside0.mk (SelOut.start1 HS2A.out.2 HV2.out (by simp; omega)); generalize w2.alloc (.cells #[.slice A5 sc.length c5, .slice none 0 0] 25) = W3 at HO ⊢; generalize w2.heap.size = g at HO ⊢)
    clear HS2A HV2 hb2 hb2s hg2
    have q1 := blk2_c1 HO.out.inv.A
    go_wp2
    clear q1 hg0 HSD hI r0 HI0
    generalize hai : idx sc v = ai
    have HAI := Aside0.mk hai
    clear hai
    go_loopw [22] (fun i W => ∃ (k : Nat) (s1 : Value), k ≤ rows.length ∧ i = .int .i64 k ∧ Aside0 (SelOut w (.slice A0 sc.length c0) (.slice A1 rows.length c1) g (.slice A5 sc.length c5) sc s1 ((rows.take k).filter (selKeeps ai value)) W)) (fun i _ => rows.length - (intOf i).toNat)
    case atStart => exact ⟨0, _, Nat.zero_le _, rfl, ⟨by simpa using HO.out⟩⟩
    case round =>
      clear HO
      obtain ⟨k, s1, hk, rfl, HO⟩ := hrel
      by_cases hlt : k < rows.length
      · obtain ⟨ad, Bx, cx, rfl, hx, hlx, hcx⟩ := at_row HR.out.2 HO.out.inv.bel k hlt
        have hkl : (k : Int) < (rows.length : Int) := by omega
        have hxl : (rows.getD k []).length < 17592186044416 := HX.out _ (by rw [getD_get _ _ hlt]; exact List.getElem_mem hlt)
        by_cases h0 : ai < 0
        · have HP := Aside0.mk (show selKeeps ai value (rows.getD k []) = true from decide_eq_true (.inl h0))
          obtain ⟨x, hxe⟩ : ∃ x, x = rows.getD k [] := ⟨_, rfl⟩
          rw [← hxe] at hx hlx hcx hxl
          have HC := Aside0.mk (And.intro hcx (And.intro hlx hxe))
          have hd0 : decide (ai < 0) = true := decide_eq_true h0
          clear hcx hlx hxe
          have qa := blk2_c1 HO.out.blk
          have hgl := (Array.getElem?_eq_some_iff.1 HO.out.blk).1
          have HW2 := Aside0.mk (show w.heap.size + 2 ≤ wr.heap.size from (Array.getElem?_eq_some_iff.1 HO.out.inv.C).1)
          have HOK := Aside0.mk (show ∀ k, wr.heap.size ≤ k → (w.heap.size + 2 ≤ k ∧ k ≠ g) ∧ some k ≠ s1.ownBlock from fun k hk => ⟨⟨by have := HW2.out; omega, by omega⟩, fun e => by have := Kd.N_lt HO.out.rows k e.symm; omega⟩)
          have HFL := Aside0.mk (show ((rows.take k).filter (selKeeps ai value)).length ≤ 1000000000 from Nat.le_trans (List.length_filter_le _ _) (by simp; omega))
          go_wp2_with fail
          go_region_law (first
            | (go_simp; go_at_call 48; refine (slices_Clone_any _ cx x _ (Kd.C_below HC.out.1 (below_drew (Below.refl _ _))) hxl).mono ?_; rintro e w4 ⟨v4, rfl, hv4, hb4⟩; obtain ⟨A6, c6, rfl, _, _⟩ := Kd.R_reads hv4; have HV4 := Aside0.mk (And.intro hv4 hb4); have hbk4 := (hb4.block g hgl).trans HO.out.blk; have qb := blk2_c1 hbk4; have qc := blk2_c1 ((Below.heap_alloc w4 (.cells #[.slice A6 x.length c6] 22) g (Array.getElem?_eq_some_iff.1 hbk4).1).trans hbk4); have HBK4 := Aside0.mk hbk4; have HB4 := Aside0.mk ((below_drew (Below.refl wr.heap.size wr)).trans hb4); clear hv4 hb4 hbk4) | ((refine Kd.N_append_step KL (w0 := w4) (w.heap.size + 2) (by rfl) (.tmp 43) (.tmp 46) 23 22 (.slice none 0 0) 24 rfl Try.underlying23 infoInts rfl (by decide) (by omega) s1 ((rows.take k).filter (selKeeps ai value)) x [.slice A6 x.length c6] (fun k => w.heap.size + 2 ≤ k ∧ k ≠ g) (fun k => wr.heap.size ≤ k) rfl rfl (Kd.FK_of_M (base := wr.drew.heap.size) ⟨_, rfl, Kd.R_mono (Kd.R_bound HV4.out.1) (fun k hk => hk.2.1)⟩) (fun k hk => HOK.out k hk) (fun k hk => (HOK.out k (Nat.le_trans HB4.out.size hk)).1) (Kd.N_below HO.out.rows HB4.out) (Below.refl _ _) (Nat.le_trans HW2.out HB4.out.size) (by have := HFL.out; omega) ?_); intro v5 w5 hN hB hgr hat; obtain ⟨A7, c7, rfl⟩ := Kd.N_slice hN; have hbk5 := HO.out.at1 HB4.out hgr; have qd := blk2_c1 hbk5; have qe := blk_fr (i := 1) hbk5; have HP5 := Aside0.mk (HO.out.push HB4.out hgr hN); clear hN hB hgr hat hbk5))
          all_goals
            go_wp2_with fail
            go_roundw
            case rel => exact ⟨k + 1, _, by omega, by go_num, ⟨by rw [filter_take_in _ _ _ hlt HP.out, ← HC.out.2.2]; have h := HP5.out; rw [List.length_append] at h; exact h⟩⟩
            case measure => simp [intOf]; omega
        · have hd0 : decide (ai < 0) = false := decide_eq_false h0
          have h00 : 0 ≤ ai := by omega
          by_cases h1 : ai < ((rows.getD k []).length : Int)
          · obtain ⟨ad2, rfl, hy⟩ := at_int' hcx (Below.refl _ _) ai h00 h1
            by_cases h2 : rd (rows.getD k []) ai = value
            · have HP := Aside0.mk (show selKeeps ai value (rows.getD k []) = true from decide_eq_true (.inr ⟨h1, h2⟩))
              have hd2 : (rd (rows.getD k []) ai == value) = true := by rw [beq_iff_eq]; exact h2
              obtain ⟨x, hxe⟩ : ∃ x, x = rows.getD k [] := ⟨_, rfl⟩
              rw [← hxe] at hx hlx hcx hxl hy h1 h2 hd2
              have HC := Aside0.mk (And.intro hcx (And.intro hlx hxe))
              clear hcx hlx hxe
              have qa := blk2_c1 HO.out.blk
              have hgl := (Array.getElem?_eq_some_iff.1 HO.out.blk).1
              have HW2 := Aside0.mk (show w.heap.size + 2 ≤ wr.heap.size from (Array.getElem?_eq_some_iff.1 HO.out.inv.C).1)
              have HOK := Aside0.mk (show ∀ k, wr.heap.size ≤ k → (w.heap.size + 2 ≤ k ∧ k ≠ g) ∧ some k ≠ s1.ownBlock from fun k hk => ⟨⟨by have := HW2.out; omega, by omega⟩, fun e => by have := Kd.N_lt HO.out.rows k e.symm; omega⟩)
              have HFL := Aside0.mk (show ((rows.take k).filter (selKeeps ai value)).length ≤ 1000000000 from Nat.le_trans (List.length_filter_le _ _) (by simp; omega))
              go_wp2_with fail
              go_region_law (first
                | (go_simp; go_at_call 48; refine (slices_Clone_any _ cx x _ (Kd.C_below HC.out.1 (below_drew (Below.refl _ _))) hxl).mono ?_; rintro e w4 ⟨v4, rfl, hv4, hb4⟩; obtain ⟨A6, c6, rfl, _, _⟩ := Kd.R_reads hv4; have HV4 := Aside0.mk (And.intro hv4 hb4); have hbk4 := (hb4.block g hgl).trans HO.out.blk; have qb := blk2_c1 hbk4; have qc := blk2_c1 ((Below.heap_alloc w4 (.cells #[.slice A6 x.length c6] 22) g (Array.getElem?_eq_some_iff.1 hbk4).1).trans hbk4); have HBK4 := Aside0.mk hbk4; have HB4 := Aside0.mk ((below_drew (Below.refl wr.heap.size wr)).trans hb4); clear hv4 hb4 hbk4) | ((refine Kd.N_append_step KL (w0 := w4) (w.heap.size + 2) (by rfl) (.tmp 43) (.tmp 46) 23 22 (.slice none 0 0) 24 rfl Try.underlying23 infoInts rfl (by decide) (by omega) s1 ((rows.take k).filter (selKeeps ai value)) x [.slice A6 x.length c6] (fun k => w.heap.size + 2 ≤ k ∧ k ≠ g) (fun k => wr.heap.size ≤ k) rfl rfl (Kd.FK_of_M (base := wr.drew.heap.size) ⟨_, rfl, Kd.R_mono (Kd.R_bound HV4.out.1) (fun k hk => hk.2.1)⟩) (fun k hk => HOK.out k hk) (fun k hk => (HOK.out k (Nat.le_trans HB4.out.size hk)).1) (Kd.N_below HO.out.rows HB4.out) (Below.refl _ _) (Nat.le_trans HW2.out HB4.out.size) (by have := HFL.out; omega) ?_); intro v5 w5 hN hB hgr hat; obtain ⟨A7, c7, rfl⟩ := Kd.N_slice hN; have hbk5 := HO.out.at1 HB4.out hgr; have qd := blk2_c1 hbk5; have qe := blk_fr (i := 1) hbk5; have HP5 := Aside0.mk (HO.out.push HB4.out hgr hN); clear hN hB hgr hat hbk5))
              all_goals
                go_wp2_with fail
                go_roundw
                case rel => exact ⟨k + 1, _, by omega, by go_num, ⟨by rw [filter_take_in _ _ _ hlt HP.out, ← HC.out.2.2]; have h := HP5.out; rw [List.length_append] at h; exact h⟩⟩
                case measure => simp [intOf]; omega
            · have HP := Aside0.mk (show selKeeps ai value (rows.getD k []) = false from decide_eq_false (fun h => h.elim (fun h => h0 h) (fun h => h2 h.2)))
              have hd2 : (rd (rows.getD k []) ai == value) = false := by rw [beq_eq_false_iff_ne]; exact h2
              obtain ⟨x, hxe⟩ : ∃ x, x = rows.getD k [] := ⟨_, rfl⟩
              rw [← hxe] at hx hlx hcx hxl hy h1 h2 hd2
              clear hxe
              go_wp2
              go_roundw
              case rel => exact ⟨k + 1, s1, by omega, by go_num, ⟨by rw [filter_take_out _ _ _ hlt HP.out]; exact HO.out⟩⟩
              case measure => simp [intOf]; omega
          · have hd1 : decide (ai < ((rows.getD k []).length : Int)) = false := decide_eq_false h1
            have HP := Aside0.mk (show selKeeps ai value (rows.getD k []) = false from decide_eq_false (fun h => h.elim (fun h => h0 h) (fun h => h1 h.1)))
            obtain ⟨x, hxe⟩ : ∃ x, x = rows.getD k [] := ⟨_, rfl⟩
            rw [← hxe] at hx hlx hcx hxl h1 hd1
            clear hxe
            go_wp2
            go_roundw
            case rel => exact ⟨k + 1, s1, by omega, by go_num, ⟨by rw [filter_take_out _ _ _ hlt HP.out]; exact HO.out⟩⟩
            case measure => simp [intOf]; omega
      · have hke : k = rows.length := by omega
        subst hke
        rw [List.take_length] at HO
        obtain ⟨A7, c7, rfl⟩ := Kd.N_slice HO.out.rows
        have qa := blk2_c0 HO.out.blk
        have qb := blk2_c1 HO.out.blk
        have p0 := blk2_c0 HO.out.inv.C
        have p1 := blk_fr (i := 0) HO.out.inv.C
        have hs0 := blk2_s0 HO.out.inv.C (.slice A5 sc.length c5)
        have p2 := blk2_c1 hs0
        have p3 := blk_fr (i := 1) hs0
        have hs1 := blk2_s1 hs0 (.slice A7 (rows.filter (selKeeps ai value)).length c7)
        have q4 := blk2_c0 hs1
        have q5 := blk2_c1 hs1
        have HS0 := Aside0.mk hs0
        clear hs0 hs1
        go_wp2
        refine bodyPost_ret (v := .agg #[.slice A5 sc.length c5, .slice A7 (rows.filter (selKeeps ai value)).length c7]) (by simp [results, Try.results26, go_sem, q4, q5]) rfl ?_
        have hA := Kd.R_set (Kd.R_set HO.out.row HO.out.inv.C (int_ty _ (by decide)) 0 (.slice A5 sc.length c5)) HS0.out (int_ty _ (by decide)) 1 (.slice A7 (rows.filter (selKeeps ai value)).length c7)
        have hB := Kd.N_far (Kd.N_far HO.out.rows (p := ⟨w.heap.size + 1, 0, none⟩) (fun k hk => by have := hk.1; show k ≠ w.heap.size + 1; omega) (.slice A5 sc.length c5)) (p := ⟨w.heap.size + 1, 1, none⟩) (fun k hk => by have := hk.1; show k ≠ w.heap.size + 1; omega) (.slice A7 (rows.filter (selKeeps ai value)).length c7)
        rw [selRel, HAI.out]
        refine ⟨_, rfl, ⟨_, _, rfl, Kd.R_mono (Kd.R_bound (Kd.R_lower hA (Nat.le_add_right _ 2))) (fun k hk => hk.2.1), Kd.N_mono (ok := fun k => w.heap.size + 2 ≤ k ∧ k ≠ g) (ok' := fun k => w.heap.size ≤ k) (Kd.N_lower hB (Nat.le_add_right _ 2)) (fun k hk => by have := hk.1; show w.heap.size ≤ k; omega)⟩, ?_⟩
        exact (HO.out.inv.bel.setCell (p := ⟨w.heap.size + 1, 0, none⟩) (Nat.le_succ _) _).setCell (p := ⟨w.heap.size + 1, 1, none⟩) (Nat.le_succ _) _
end Go.Proofs.Ytlinhcgggfdlpaa.G
