/- The document's Select, walked. -/
import Derived.Test.YtlinhcgggfdlpaaDocsP
set_option linter.unusedVariables false
set_option linter.unusedSimpArgs false
namespace Go.Proofs.Ytlinhcgggfdlpaa.G
open Go.RowKit Go.Proofs.YtlinhcgggfdlpaaW.PrintWords Go.Proofs.YtlinhcgggfdlpaaW.PrintLast Go.Proofs.YtlinhcgggfdlpaaW.PrintMore Go.Proofs.Ytlinhcgggfdlpaa.PRefs

set_option maxHeartbeats 8000000 in
set_option maxRecDepth 100000 in
theorem refselect_own {A0 : Option Addr} {c0 : Nat} {sc : List Int} {A1 : Option Addr} {c1 : Nat} {rows : List (List Int)} {v value : Int} {w : World} (hR : RelRd w A0 c0 sc A1 c1 rows) (hz : Sz sc rows) (hrl : ∀ x ∈ rows, x.length = sc.length) :
    Calls Try.prog 29 #[.agg #[.slice A0 sc.length c0, .slice A1 rows.length c1], .int .i64 v, .int .i64 value] w fun e w' => ∃ u, e = .returned u ∧ RelM w' w.heap.size u (selRel sc rows v value) ∧ Below w.heap.size w w' := by
  have hm := hz.s
  have hm1 := hz.l
  have HR := Aside0.mk hR
  have HX := Aside0.mk (show ∀ x ∈ rows, x.length ≤ 1000 from hz.x)
  have HCP := Aside0.mk (Copy_f sc (by omega))
  have HPL := Aside0.mk (Place_f sc v 5000 (by omega) (by omega))
  have HAT := Aside0.mk (show 0 ≤ idx sc v → ∀ x ∈ rows, idx sc v < (x.length : Int) from fun h x hx => by
    rw [hrl x hx]
    by_cases hv : v ∈ sc
    · obtain ⟨h1, h2⟩ := idx_in hv; omega
    · rw [idx_out hv] at h; omega)
  clear hR hrl
  obtain ⟨W0, hW0⟩ : ∃ W0, (w.alloc (.cells #[.slice A0 sc.length c0, .slice A1 rows.length c1] 25)).alloc (.cells #[.slice none 0 0, .slice none 0 0] 25) = W0 := ⟨_, rfl⟩
  have hI0 : SelInv w (.slice A0 sc.length c0) (.slice A1 rows.length c1) W0 := by rw [← hW0]; exact SelInv.start _ _ _
  have HI0 := Aside0.mk hI0
  have r0 := blk2_c0 hI0.A
  clear hI0
  generalize hai : idx sc v = ai at HPL HAT
  have HAI := Aside0.mk hai
  clear hai
  go_enter Try.func29, Try.ntmps29
  go_wp2_with (first
    | (go_at_call 51; refine (arboristref01_Copy.calls A0 c0 sc sc w1 (Kd.C_below HR.out.row HI1.out.bel) HR.out.cap HCP.out).mono ?_; rintro e w2 ⟨v2, rfl, hv2, hb2⟩; obtain ⟨A5, c5, rfl, _, _⟩ := Kd.R_reads hv2; have HV2 := Aside0.mk hv2; have HI2 := Aside0.mk (HI1.out.step hb2); clear hv2 hb2)
    | (go_at_call 57; refine (arboristref02_Place.calls 5000 A0 c0 sc v ai W0 (Kd.C_below HR.out.row HI0.out.bel) HR.out.cap HPL.out).mono ?_; rintro e w1 ⟨rfl, hd⟩; have HI1 := Aside0.mk (HI0.out.step hd.below); have r1 := blk2_c0 HI1.out.A; clear hd r0 hW0))
  have hws : w.heap.size + 2 ≤ w1.heap.size := (Array.getElem?_eq_some_iff.1 HI1.out.C).1
  have HO := Aside0.mk (SelOut.start1 HI2.out HV2.out hws)
  clear HV2 HI2 hws
  generalize w2.alloc (.cells #[.slice A5 sc.length c5, .slice none 0 0] 25) = W3 at HO ⊢
  generalize w2.heap.size = g at HO ⊢
  go_loopw [9] (fun i W => ∃ (k : Nat) (s1 : Value), k ≤ rows.length ∧ i = .int .i64 k ∧ Aside0 (SelOut w (.slice A0 sc.length c0) (.slice A1 rows.length c1) g (.slice A5 sc.length c5) sc s1 ((rows.take k).filter (selKeeps ai value)) W)) (fun i _ => rows.length - (intOf i).toNat)
  case atStart => exact ⟨0, _, Nat.zero_le _, rfl, ⟨by simpa using HO.out⟩⟩
  case round =>
    clear HO
    obtain ⟨k, s1, hk, rfl, HO⟩ := hrel
    have q1 := blk2_c1 HO.out.inv.A
    by_cases hlt : k < rows.length
    · obtain ⟨ad, Bx, cx, rfl, hx, hlx, hcx⟩ := at_row HR.out.rows HO.out.inv.bel k hlt
      have hkl : (k : Int) < (rows.length : Int) := by omega
      have hxl : (rows.getD k []).length ≤ 1000 := HX.out _ (by rw [getD_get _ _ hlt]; exact List.getElem_mem hlt)
      have hatk : 0 ≤ ai → ai < ((rows.getD k []).length : Int) := fun h => HAT.out h _ (by rw [getD_get _ _ hlt]; exact List.getElem_mem hlt)
      by_cases h0 : ai < 0
      · have hd0 : decide (ai < 0) = true := decide_eq_true h0
        have HP := Aside0.mk (show selKeeps ai value (rows.getD k []) = true from decide_eq_true (.inl h0))
        have HATK := Aside0.mk hatk
        clear hatk
        obtain ⟨x, hxe⟩ : ∃ x, x = rows.getD k [] := ⟨_, rfl⟩
        rw [← hxe] at hx hlx hcx hxl
        have HC := Aside0.mk (And.intro hcx (And.intro hlx hxe))
        clear hcx hlx hxe
        have qa := blk2_c1 HO.out.blk
        have hgl := (Array.getElem?_eq_some_iff.1 HO.out.blk).1
        have HW2 := Aside0.mk (show w.heap.size + 2 ≤ wr.heap.size from (Array.getElem?_eq_some_iff.1 HO.out.inv.C).1)
        have HOK := Aside0.mk (show ∀ k, wr.heap.size ≤ k → (w.heap.size + 2 ≤ k ∧ k ≠ g) ∧ some k ≠ s1.ownBlock from fun k hk => ⟨⟨by have := HW2.out; omega, by omega⟩, fun e => by have := Kd.N_lt HO.out.rows k e.symm; omega⟩)
        have HFL := Aside0.mk (show ((rows.take k).filter (selKeeps ai value)).length ≤ 1000000000 from Nat.le_trans (List.length_filter_le _ _) (by simp; omega))
        go_wp2_with fail
        go_region_law (first
          | (go_simp; go_at_call 51; refine (arboristref01_Copy.calls _ cx x x _ (Kd.C_below HC.out.1 (below_drew (Below.refl _ _))) HC.out.2.1 (Copy_f x (by omega))).mono ?_; rintro e w4 ⟨v4, rfl, hv4, hb4⟩; obtain ⟨A6, c6, rfl, _, _⟩ := Kd.R_reads hv4; have HV4 := Aside0.mk (And.intro hv4 hb4); have hbk4 := (hb4.block g hgl).trans HO.out.blk; have qb := blk2_c1 hbk4; have qc := blk2_c1 ((Below.heap_alloc w4 (.cells #[.slice A6 x.length c6] 22) g (Array.getElem?_eq_some_iff.1 hbk4).1).trans hbk4); have HBK4 := Aside0.mk hbk4; have HB4 := Aside0.mk ((below_drew (Below.refl wr.heap.size wr)).trans hb4); clear hv4 hb4 hbk4) | ((refine Kd.N_append_step KL (w0 := w4) (w.heap.size + 2) (by rfl) (.tmp 40) (.tmp 47) 23 22 (.slice none 0 0) 24 rfl Try.underlying23 infoInts rfl (by decide) (by omega) s1 ((rows.take k).filter (selKeeps ai value)) x [.slice A6 x.length c6] (fun k => w.heap.size + 2 ≤ k ∧ k ≠ g) (fun k => wr.heap.size ≤ k) rfl rfl (Kd.FK_of_M (base := wr.drew.heap.size) ⟨_, rfl, Kd.R_mono (Kd.R_bound HV4.out.1) (fun k hk => hk.2.1)⟩) (fun k hk => HOK.out k hk) (fun k hk => (HOK.out k (Nat.le_trans HB4.out.size hk)).1) (Kd.N_below HO.out.rows HB4.out) (Below.refl _ _) (Nat.le_trans HW2.out HB4.out.size) (by have := HFL.out; omega) ?_); intro v5 w5 hN hB hgr hat; obtain ⟨A7, c7, rfl⟩ := Kd.N_slice hN; have hbk5 := HO.out.at1 HB4.out hgr; have qd := blk2_c1 hbk5; have qe := blk_fr (i := 1) hbk5; have HP5 := Aside0.mk (HO.out.push HB4.out hgr hN); clear hN hB hgr hat hbk5))
        all_goals
          go_wp2_with fail
          go_roundw
          case rel => exact ⟨k + 1, _, by omega, by go_num, ⟨by rw [filter_take_in _ _ _ hlt HP.out, ← HC.out.2.2]; have h := HP5.out; rw [List.length_append] at h; exact h⟩⟩
          case measure => simp [intOf]; omega
      · have hd0 : decide (ai < 0) = false := decide_eq_false h0
        have h00 : 0 ≤ ai := by omega
        have h1 := hatk h00
        clear hatk
        obtain ⟨ad2, rfl, hy⟩ := at_int' hcx (Below.refl _ _) ai h00 h1
        by_cases h2 : rd (rows.getD k []) ai = value
        · have HP := Aside0.mk (show selKeeps ai value (rows.getD k []) = true from decide_eq_true (.inr ⟨h1, h2⟩))
          have hd2 : (rd (rows.getD k []) ai == value) = true := by rw [beq_iff_eq]; exact h2
          obtain ⟨x, hxe⟩ : ∃ x, x = rows.getD k [] := ⟨_, rfl⟩
          rw [← hxe] at hx hlx hcx hxl hy h1 h2 hd2
          have HC := Aside0.mk (And.intro hcx (And.intro hlx hxe))
          clear hcx hlx hxe
          have qa := blk2_c1 HO.out.blk
          have hgl := (Array.getElem?_eq_some_iff.1 HO.out.blk).1
          have HW2 := Aside0.mk (show w.heap.size + 2 ≤ wr.heap.size from (Array.getElem?_eq_some_iff.1 HO.out.inv.C).1)
          have HOK := Aside0.mk (show ∀ k, wr.heap.size ≤ k → (w.heap.size + 2 ≤ k ∧ k ≠ g) ∧ some k ≠ s1.ownBlock from fun k hk => ⟨⟨by have := HW2.out; omega, by omega⟩, fun e => by have := Kd.N_lt HO.out.rows k e.symm; omega⟩)
          have HFL := Aside0.mk (show ((rows.take k).filter (selKeeps ai value)).length ≤ 1000000000 from Nat.le_trans (List.length_filter_le _ _) (by simp; omega))
          go_wp2_with fail
          go_region_law (first
            | (go_simp; go_at_call 51; refine (arboristref01_Copy.calls _ cx x x _ (Kd.C_below HC.out.1 (below_drew (Below.refl _ _))) HC.out.2.1 (Copy_f x (by omega))).mono ?_; rintro e w4 ⟨v4, rfl, hv4, hb4⟩; obtain ⟨A6, c6, rfl, _, _⟩ := Kd.R_reads hv4; have HV4 := Aside0.mk (And.intro hv4 hb4); have hbk4 := (hb4.block g hgl).trans HO.out.blk; have qb := blk2_c1 hbk4; have qc := blk2_c1 ((Below.heap_alloc w4 (.cells #[.slice A6 x.length c6] 22) g (Array.getElem?_eq_some_iff.1 hbk4).1).trans hbk4); have HBK4 := Aside0.mk hbk4; have HB4 := Aside0.mk ((below_drew (Below.refl wr.heap.size wr)).trans hb4); clear hv4 hb4 hbk4) | ((refine Kd.N_append_step KL (w0 := w4) (w.heap.size + 2) (by rfl) (.tmp 40) (.tmp 47) 23 22 (.slice none 0 0) 24 rfl Try.underlying23 infoInts rfl (by decide) (by omega) s1 ((rows.take k).filter (selKeeps ai value)) x [.slice A6 x.length c6] (fun k => w.heap.size + 2 ≤ k ∧ k ≠ g) (fun k => wr.heap.size ≤ k) rfl rfl (Kd.FK_of_M (base := wr.drew.heap.size) ⟨_, rfl, Kd.R_mono (Kd.R_bound HV4.out.1) (fun k hk => hk.2.1)⟩) (fun k hk => HOK.out k hk) (fun k hk => (HOK.out k (Nat.le_trans HB4.out.size hk)).1) (Kd.N_below HO.out.rows HB4.out) (Below.refl _ _) (Nat.le_trans HW2.out HB4.out.size) (by have := HFL.out; omega) ?_); intro v5 w5 hN hB hgr hat; obtain ⟨A7, c7, rfl⟩ := Kd.N_slice hN; have hbk5 := HO.out.at1 HB4.out hgr; have qd := blk2_c1 hbk5; have qe := blk_fr (i := 1) hbk5; have HP5 := Aside0.mk (HO.out.push HB4.out hgr hN); clear hN hB hgr hat hbk5))
          all_goals
            go_wp2_with fail
            go_roundw
            case rel => exact ⟨k + 1, _, by omega, by go_num, ⟨by rw [filter_take_in _ _ _ hlt HP.out, ← HC.out.2.2]; have h := HP5.out; rw [List.length_append] at h; exact h⟩⟩
            case measure => simp [intOf]; omega
        · have HP := Aside0.mk (show selKeeps ai value (rows.getD k []) = false from decide_eq_false (fun h => h.elim (fun h => h0 h) (fun h => h2 h.2)))
          have hd2 : (rd (rows.getD k []) ai == value) = false := by rw [beq_eq_false_iff_ne]; exact h2
          obtain ⟨x, hxe⟩ : ∃ x, x = rows.getD k [] := ⟨_, rfl⟩
          rw [← hxe] at hx hlx hcx hxl hy h1 h2 hd2
          clear hxe
          go_wp2
          go_roundw
          case rel => exact ⟨k + 1, s1, by omega, by go_num, ⟨by rw [filter_take_out _ _ _ hlt HP.out]; exact HO.out⟩⟩
          case measure => simp [intOf]; omega
    · have hke : k = rows.length := by omega
      subst hke
      rw [List.take_length] at HO
      obtain ⟨A7, c7, rfl⟩ := Kd.N_slice HO.out.rows
      have qa := blk2_c0 HO.out.blk
      have qb := blk2_c1 HO.out.blk
      have p0 := blk2_c0 HO.out.inv.C
      have p1 := blk_fr (i := 0) HO.out.inv.C
      have hs0 := blk2_s0 HO.out.inv.C (.slice A5 sc.length c5)
      have p2 := blk2_c1 hs0
      have p3 := blk_fr (i := 1) hs0
      have hs1 := blk2_s1 hs0 (.slice A7 (rows.filter (selKeeps ai value)).length c7)
      have q4 := blk2_c0 hs1
      have q5 := blk2_c1 hs1
      have HS0 := Aside0.mk hs0
      clear hs0 hs1
      go_wp2
      refine bodyPost_ret (v := .agg #[.slice A5 sc.length c5, .slice A7 (rows.filter (selKeeps ai value)).length c7]) (by simp [results, Try.results29, go_sem, q4, q5]) rfl ?_
      have hA := Kd.R_set (Kd.R_set HO.out.row HO.out.inv.C (int_ty _ (by decide)) 0 (.slice A5 sc.length c5)) HS0.out (int_ty _ (by decide)) 1 (.slice A7 (rows.filter (selKeeps ai value)).length c7)
      have hB := Kd.N_far (Kd.N_far HO.out.rows (p := ⟨w.heap.size + 1, 0, none⟩) (fun k hk => by have := hk.1; show k ≠ w.heap.size + 1; omega) (.slice A5 sc.length c5)) (p := ⟨w.heap.size + 1, 1, none⟩) (fun k hk => by have := hk.1; show k ≠ w.heap.size + 1; omega) (.slice A7 (rows.filter (selKeeps ai value)).length c7)
      rw [selRel, HAI.out]
      refine ⟨_, rfl, ⟨_, _, rfl, Kd.R_mono (Kd.R_bound (Kd.R_lower hA (Nat.le_add_right _ 2))) (fun k hk => hk.2.1), Kd.N_mono (ok := fun k => w.heap.size + 2 ≤ k ∧ k ≠ g) (ok' := fun k => w.heap.size ≤ k) (Kd.N_lower hB (Nat.le_add_right _ 2)) (fun k hk => by have := hk.1; show w.heap.size ≤ k; omega)⟩, ?_⟩
      exact (HO.out.inv.bel.setCell (p := ⟨w.heap.size + 1, 0, none⟩) (Nat.le_succ _) _).setCell (p := ⟨w.heap.size + 1, 1, none⟩) (Nat.le_succ _) _
end Go.Proofs.Ytlinhcgggfdlpaa.G
