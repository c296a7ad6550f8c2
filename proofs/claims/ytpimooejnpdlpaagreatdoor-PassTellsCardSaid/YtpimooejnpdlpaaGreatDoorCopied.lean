/- pass.copied: relations with rows of their own. -/
import Derived.Test.YtpimooejnpdlpaaGreatDoorRels
import Derived.Test.YtpimooejnpdlpaaGreatDoorSemi
set_option linter.unusedVariables false
set_option linter.unusedSimpArgs false
namespace Go.Proofs.YtpimooejnpdlpaaGreatDoor.G
open Go.RowKit Go.Proofs.YtpimooejnpdlpaaGreatDoorW.PrintWords Go.Proofs.YtpimooejnpdlpaaGreatDoorW.PrintLast Go.Proofs.YtpimooejnpdlpaaGreatDoorW.PrintMore Go.Proofs.YtpimooejnpdlpaaGreatDoor.PRefs

/-- A relation under way: its scheme, and the first of its rows. -/
structure CopyMid (w W : World) (h : Nat) (cur curR : Array Value) (n k m : Nat) (done : List S39) (x : S39) (A : Option Addr) (c : Nat) (ys : List (List Int)) : Prop where
  rels : RelsAt W w.heap.size cur n done
  h0 : cur[k * 2]! = .slice A x.f0.length c
  h1 : cur[k * 2 + 1]! = .slice (some ⟨h, 0, none⟩) m m
  sc : Kd.R KI 3 W (w.heap.size + 1) AnyB (.slice A x.f0.length c) x.f0
  rows : RowsAt W (w.heap.size + 1) h curR ys
  size : curR.size = m
  lt : w.heap.size < h
  bel : Below w.heap.size w W
  away : ∀ j, j < done.length → Kd.N KL 25 W (w.heap.size + 1) (fun q => w.heap.size + 1 ≤ q ∧ q ≠ h) cur[j * 2 + 1]! (fam done j)
theorem CopyMid.start {w W1 wx : World} {h : Nat} {cur : Array Value} {n k m : Nat} {done : List S39} {x : S39} {A : Option Addr} {c : Nat} (hr1 : RelsAt W1 w.heap.size cur n done) (hb1 : Below W1.heap.size W1 wx) (hh : W1.heap.size ≤ h) (hk : done.length = k) (hlt : k < n)
    (hs : Kd.R KI 3 wx (w.heap.size + 1) AnyB (.slice A x.f0.length c) x.f0) (hrow : wx.heap[h]? = some (.cells (madeCells #[.slice none 0 0] m) 25 (0, 0))) (hb : Below w.heap.size w wx) :
    ∃ cur', CopyMid w ((wx.setCell ⟨w.heap.size, k * 2, none⟩ (.slice A x.f0.length c)).setCell ⟨w.heap.size, k * 2 + 1, none⟩ (.slice (some ⟨h, 0, none⟩) m m)) h cur' (madeCells #[.slice none 0 0] m) n k m done x A c [] := by
  have hr := hr1.keep hb1
  have hgl := hr1.lt
  have hsz := hr.size
  have hdl := hr.len
  refine ⟨(cur.setIfInBounds (k * 2) (.slice A x.f0.length c)).setIfInBounds (k * 2 + 1) (.slice (some ⟨h, 0, none⟩) m m), ⟨?_, ?_, ?_, ?_, ⟨?_, by simp, fun j hj => by simp at hj⟩, by simp [madeCells], by omega, ?_, fun j hj => ?_⟩⟩
  · refine ⟨blk_set (blk_set hr.blk _ _) _ _, by simp [hsz], hr.len, fun j hj => ?_⟩
    rw [two_get (by omega), two_get (by omega), if_neg (by omega), if_neg (by omega), if_neg (by omega), if_neg (by omega)]
    exact ((hr.rel j hj).far (p := ⟨w.heap.size, k * 2, none⟩) (Nat.lt_succ_self _) _).far (p := ⟨w.heap.size, k * 2 + 1, none⟩) (Nat.lt_succ_self _) _
  · rw [two_get (by omega), if_pos rfl]
  · rw [two_get (by omega), if_neg (by omega), if_pos rfl]
  · have h1 := Kd.R_set hs hr.blk (int_ty _ (by decide)) (k * 2) (.slice A x.f0.length c)
    exact Kd.R_set h1 (blk_set hr.blk _ _) (int_ty _ (by decide)) (k * 2 + 1) _
  · exact (Below.heap_setCell _ _ _ _ (by show h ≠ w.heap.size; omega)).trans ((Below.heap_setCell _ _ _ _ (by show h ≠ w.heap.size; omega)).trans hrow)
  · exact (hb.setCell (p := ⟨w.heap.size, k * 2, none⟩) (Nat.le_refl _) _).setCell (p := ⟨w.heap.size, k * 2 + 1, none⟩) (Nat.le_refl _) _
  · rw [two_get (by omega), if_neg (by omega), if_neg (by omega)]
    obtain ⟨s0, s1, e, _, g1⟩ := hr1.rel j hj
    injection e with e
    injection e with e
    injection e with e1 e2
    injection e2 with e2 _
    rw [e2]
    have g2 := Kd.N_below (Kd.N_mono (Kd.N_bound g1) (ok' := fun q => w.heap.size + 1 ≤ q ∧ q ≠ h) (fun q hq => ⟨hq.1, by have := hq.2; omega⟩)) hb1
    exact Kd.N_far (Kd.N_far g2 (p := ⟨w.heap.size, k * 2, none⟩) (fun q hq => by have := hq.1; show q ≠ w.heap.size; omega) _) (p := ⟨w.heap.size, k * 2 + 1, none⟩) (fun q hq => by have := hq.1; show q ≠ w.heap.size; omega) _
/-- Another row is in. -/
theorem CopyMid.push {w W W1 : World} {h : Nat} {cur curR : Array Value} {n k m j : Nat} {done : List S39} {x : S39} {A : Option Addr} {c : Nat} {ys : List (List Int)} {y : List Int} {v : Value} (hm : CopyMid w W h cur curR n k m done x A c ys) (hb : Below W.heap.size W W1)
    (hv : Kd.R KI 3 W1 W.heap.size AnyB v y) (hj : ys.length = j) (hjm : j < m) : CopyMid w (W1.setCell ⟨h, j, none⟩ v) h cur (curR.setIfInBounds j v) n k m done x A c (ys ++ [y]) := by
  have hgl := hm.rels.lt
  have hhl := (Array.getElem?_eq_some_iff.1 hm.rows.blk).1
  have hlt := hm.lt
  have hb1 := (hb.block _ hhl).trans hm.rows.blk
  refine ⟨?_, hm.h0, hm.h1, Kd.R_set (Kd.R_below hm.sc hb) hb1 (int_ty _ (by decide)) _ _, (hm.rows.keep hb).push hj (by rw [hm.size]; exact hjm) (R_FK hv hhl (by omega)), by rw [Array.size_setIfInBounds]; exact hm.size, hm.lt, (below_then hm.bel hm.bel.size hb).setCell (p := ⟨h, j, none⟩) (Nat.le_of_lt hlt) _, fun i hi => Kd.N_far (Kd.N_below (hm.away i hi) hb) (p := ⟨h, j, none⟩) (fun q hq => hq.2) v⟩
  have hr := hm.rels.keep hb
  refine ⟨(Below.heap_setCell _ _ _ _ (by show w.heap.size ≠ h; omega)).trans hr.blk, hr.size, hr.len, fun i hi => ?_⟩
  obtain ⟨s0, s1, e, g0, g1⟩ := hr.rel i hi
  refine ⟨s0, s1, e, ?_, ?_⟩
  · exact Kd.R_set g0 hb1 (int_ty _ (by decide)) j v
  · have hi' : i < done.length := hi
    have := Kd.N_mono (Kd.N_far (Kd.N_below (hm.away i hi') hb) (p := ⟨h, j, none⟩) (fun q hq => hq.2) v) (ok' := fun q => w.heap.size + 1 ≤ q) (fun q hq => hq.1)
    injection e with e
    injection e with e
    injection e with e1 e2
    injection e2 with e2 _
    rw [← e2]; exact this
theorem CopyMid.done {w W : World} {h : Nat} {cur curR : Array Value} {n k : Nat} {done : List S39} {x : S39} {A : Option Addr} {c : Nat} (hm : CopyMid w W h cur curR n k x.f1.length done x A c x.f1) (hk : done.length = k) (hlt : k < n) (hx : x.f1.length ≤ 1000000) : RelsAt W w.heap.size cur n (done ++ [x]) := by
  refine hm.rels.more hk hlt ?_
  rw [hm.h0, hm.h1]
  refine ⟨_, _, rfl, Kd.R_mono (Kd.R_bound hm.sc) (fun k hk => hk.2.1), ?_⟩
  have := RowsAt_N hm.rows hm.lt (by rw [hm.size]; unfold maxLen; omega)
  rw [hm.size] at this
  exact this

set_option maxHeartbeats 4000000 in
set_option maxRecDepth 100000 in
theorem copied_any (A0 : Option Addr) (c0 : Nat) (l : List S39) (w : World) (hr : Kd.C k39 w A0 l.length l) (hm : l.length ≤ 1000000) (hl : ∀ r ∈ l, r.f1.length ≤ 1000000 ∧ r.f0.length ≤ 1000000 ∧ ∀ t ∈ r.f1, t.length ≤ 1000000) :
    Calls Tryz.prog 16 #[.slice A0 l.length c0] w fun e w' => ∃ v, e = .returned v ∧ RelsM w' w.heap.size v l ∧ Below w.heap.size w w' := by
  have HR := Aside0.mk hr
  have HX := Aside0.mk hl
  clear hr hl
  have hmk := make_rels l.length hm
  go_enter Tryz.func16, Tryz.ntmps16
  go_wp2
  clear hmk
  have h0 : RelsAt (w.alloc (.cells (madeRels l.length) 39)) w.heap.size (madeRels l.length) l.length [] := ⟨heap_alloc_new w _, madeRels_size _, Nat.zero_le _, fun j hj => by simp at hj⟩
  have HO := Aside0.mk h0
  have HB := Aside0.mk (below_alloc (Below.refl w.heap.size w) (.cells (madeRels l.length) 39))
  clear h0
  generalize w.alloc (.cells (madeRels l.length) 39) = W0 at *
  go_loopw [13] (fun i W => ∃ (k : Nat) (cur : Array Value), k ≤ l.length ∧ i = .int .i64 k ∧ Aside0 (RelsAt W w.heap.size cur l.length (l.take k)) ∧ Aside0 (Below w.heap.size w W)) (fun i _ => l.length - (intOf i).toNat)
  case atStart => exact ⟨0, _, Nat.zero_le _, rfl, HO, HB⟩
  case round =>
    clear HO HB
    obtain ⟨k, cur, hk, rfl, HO, HB⟩ := hrel
    by_cases hlt : k < l.length
    · obtain ⟨ad, Bx, bx, Dx, dx, hA0, hc0, hc1, hcx, hrx, hdx, hrwx⟩ := at_T39 HR.out (k : Int) (by omega) (by omega)
      subst hA0
      have hkl : (k : Int) < (l.length : Int) := by omega
      have hx0 := (HB.out.cell (World.block_lt_of_cell? w _ hc0)).trans hc0
      have hx1 := (HB.out.cell (World.block_lt_of_cell? w _ hc1)).trans hc1
      simp only [Int.toNat_natCast] at hx0 hx1
      have hmem : rd_T39 l (k : Int) ∈ l := by rw [getD_T l k hlt]; exact List.getElem_mem hlt
      have hxr := HX.out _ hmem
      have htk : l.take (k + 1) = l.take k ++ [rd_T39 l (k : Int)] := by rw [List.take_succ_eq_append_getElem hlt, getD_T l k hlt]
      obtain ⟨x, hxe⟩ : ∃ x, x = rd_T39 l (k : Int) := ⟨_, rfl⟩
      rw [← hxe] at hx0 hx1 hcx hrx hdx hrwx hxr htk
      have HRX := Aside0.mk (And.intro (RelRd.mk hrx hcx hrwx hdx) (And.intro hxr htk))
      have hxl := hxr.1
      have hxs := hxr.2.1
      clear hc0 hc1 hcx hrx hdx hrwx hxr htk hxe hmem
      have hkb := heap_alloc_new wr (.cells #[.slice Bx x.f0.length bx, .slice Dx x.f1.length dx] 39)
      have hW1 := below_alloc (Below.refl wr.heap.size wr) (.cells #[.slice Bx x.f0.length bx, .slice Dx x.f1.length dx] 39)
      have hgl := HO.out.lt
      have HO1 := Aside0.mk (HO.out.keep hW1)
      have hbl : wr.heap.size < (wr.alloc (.cells #[.slice Bx x.f0.length bx, .slice Dx x.f1.length dx] 39)).heap.size := by simp
      go_upto_region 5 with fail
      generalize wr.alloc (.cells #[.slice Bx x.f0.length bx, .slice Dx x.f1.length dx] 39) = W1 at *
      have HKB := Aside0.mk hkb
      have HB1 := Aside0.mk (below_then HB.out HB.out.size hW1)
      have q0 := blk2_c0 hkb
      have q1 := blk2_c1 hkb
      have hne : wr.heap.size ≠ w.heap.size := by omega
      have hlk : (l.take k).length = k := by rw [List.length_take]; omega
      have HST := Aside0.mk (show ∀ {W W' : World}, (W.cell? ⟨wr.heap.size, 0, none⟩ = some (.slice Bx x.f0.length bx) ∧ W.cell? ⟨wr.heap.size, 1, none⟩ = some (.slice Dx x.f1.length dx) ∧ But W1 w.heap.size W ∧ ∃ cur, RelsAt W w.heap.size cur l.length (l.take k)) → Below W.heap.size W W' → (W'.cell? ⟨wr.heap.size, 0, none⟩ = some (.slice Bx x.f0.length bx) ∧ W'.cell? ⟨wr.heap.size, 1, none⟩ = some (.slice Dx x.f1.length dx) ∧ But W1 w.heap.size W' ∧ ∃ cur, RelsAt W' w.heap.size cur l.length (l.take k)) from fun {W W'} h hb => ⟨(hb.cell (World.block_lt_of_cell? W _ h.1)).trans h.1, (hb.cell (World.block_lt_of_cell? W _ h.2.1)).trans h.2.1, h.2.2.1.step hb, h.2.2.2.imp fun _ h => h.keep hb⟩)
      have HSE := Aside0.mk (show ∀ {W : World} (u v : Value), (W.cell? ⟨wr.heap.size, 0, none⟩ = some (.slice Bx x.f0.length bx) ∧ W.cell? ⟨wr.heap.size, 1, none⟩ = some (.slice Dx x.f1.length dx) ∧ But W1 w.heap.size W ∧ ∃ cur, RelsAt W w.heap.size cur l.length (l.take k)) → (((W.setCell ⟨w.heap.size, k * 2, none⟩ u).setCell ⟨w.heap.size, k * 2 + 1, none⟩ v).cell? ⟨wr.heap.size, 0, none⟩ = some (.slice Bx x.f0.length bx) ∧ ((W.setCell ⟨w.heap.size, k * 2, none⟩ u).setCell ⟨w.heap.size, k * 2 + 1, none⟩ v).cell? ⟨wr.heap.size, 1, none⟩ = some (.slice Dx x.f1.length dx) ∧ But W1 w.heap.size ((W.setCell ⟨w.heap.size, k * 2, none⟩ u).setCell ⟨w.heap.size, k * 2 + 1, none⟩ v) ∧ ∃ cur, RelsAt ((W.setCell ⟨w.heap.size, k * 2, none⟩ u).setCell ⟨w.heap.size, k * 2 + 1, none⟩ v) w.heap.size cur l.length (l.take k)) from fun {W} u v h => ⟨cell_set_ne (cell_set_ne h.1 hne _ u) hne _ v, cell_set_ne (cell_set_ne h.2.1 hne _ u) hne _ v, (h.2.2.1.set _ u).set _ v, h.2.2.2.elim fun _ h => h.spare hlk hlt⟩)
      have HS0A := Aside0.mk (show W1.cell? ⟨wr.heap.size, 0, none⟩ = some (.slice Bx x.f0.length bx) ∧ W1.cell? ⟨wr.heap.size, 1, none⟩ = some (.slice Dx x.f1.length dx) ∧ But W1 w.heap.size W1 ∧ ∃ cur, RelsAt W1 w.heap.size cur l.length (l.take k) from ⟨q0, q1, But.of w.heap.size (Below.refl W1.heap.size W1), cur, HO1.out⟩)
      have HSDA := Aside0.mk (HST.out HS0A.out (below_drew (Below.refl _ _)))
      have hmkr := fun W => run_make_row' (P := Tryz.prog) 24 25 (.slice none 0 0) 24 Tryz.underlying24 infoInts rfl .i64 .i64 x.f1.length (by omega) (by omega) W
      have HMR := Aside0.mk (show ∀ W, Below W.heap.size W (W.alloc (.cells (madeCells #[.slice none 0 0] x.f1.length) 25)) from fun W => below_alloc (Below.refl _ _) _)
      clear hkb hW1 hx0 hx1
      go_region_held3 (fun W => W.cell? ⟨wr.heap.size, 0, none⟩ = some (.slice Bx x.f0.length bx) ∧ W.cell? ⟨wr.heap.size, 1, none⟩ = some (.slice Dx x.f1.length dx) ∧ But W1 w.heap.size W ∧ ∃ cur, RelsAt W w.heap.size cur l.length (l.take k))
        (first | with_reducible exact HS2A.out | with_reducible exact HSDA.out | with_reducible exact HS0A.out | with_reducible exact HST.out HS2A.out (below_alloc (Below.refl _ _) _) | with_reducible exact HST.out (by assumption) (below_alloc (Below.refl _ _) _) | with_reducible exact HST.out (by assumption) (below_drew (Below.refl _ _)) | with_reducible exact HSE.out _ _ HS2A.out | with_reducible exact HSE.out _ _ (HST.out HS2A.out (below_alloc (Below.refl _ _) _)))
        (first
          | (go_at_call 30; refine (slices_Clone_any Bx bx x.f0 _ (Kd.C_below HRX.out.1.row ((by assumption : _ ∧ _ ∧ But W1 w.heap.size _ ∧ _).2.2.1.below HB1.out HB1.out.size (Nat.le_refl _))) (by omega)).mono ?_; rintro e w2 ⟨v2, rfl, hv2, hb2⟩; have hS2 := HST.out (by assumption) hb2; have HS2A := Aside0.mk hS2; obtain ⟨A2, c2, rfl, _, _⟩ := Kd.R_reads hv2; have HV2 := Aside0.mk (And.intro hv2 hb2); have HW2 := Aside0.mk (show Below W1.heap.size W1 w2 from by first | exact hb2 | exact below_then (below_drew (Below.refl _ _)) (Nat.le_refl _) hb2 | exact below_then (HMR.out W1) (HMR.out W1).size hb2 | exact below_then (below_then (HMR.out W1) (HMR.out W1).size (below_drew (Below.refl _ _))) (HMR.out W1).size hb2 | exact below_then (below_then (below_drew (Below.refl _ _)) (Nat.le_refl _) (HMR.out W1.drew)) (HMR.out W1.drew).size hb2); obtain ⟨cur2, hR2⟩ := hS2.2.2.2; have p0 := hR2.cell (k * 2) (by omega); have p1 := hR2.cell (k * 2 + 1) (by omega); have p2 := hR2.frozen (k * 2); have p3 := hR2.frozen (k * 2 + 1); have hR3 := hR2.keep (HMR.out w2); have p4 := hR3.cell (k * 2) (by omega); have p5 := hR3.cell (k * 2 + 1) (by omega); have p6 := hR3.frozen (k * 2); have p7 := hR3.frozen (k * 2 + 1); have HR2 := Aside0.mk hR2; clear hR2 hR3 hv2 hb2 hS2))
      all_goals
        first
        | (obtain ⟨cur3, hM⟩ := CopyMid.start (m := x.f1.length) (h := w2.heap.size) (wx := w2.alloc (.cells (madeCells #[.slice none 0 0] x.f1.length) 25)) HO1.out (below_then HW2.out HW2.out.size (HMR.out w2)) HW2.out.size hlk hlt (Kd.R_lower (Kd.R_below HV2.out.1 (HMR.out w2)) (by first | omega | (simp; omega))) (heap_alloc_new w2 _) (below_then HB1.out HB1.out.size (below_then HW2.out HW2.out.size (HMR.out w2))); have HM := Aside0.mk hM; clear hM; have hbx := (HSE.out (.slice A2 x.f0.length c2) (.slice (some ⟨w2.heap.size, 0, none⟩) x.f1.length x.f1.length) (HST.out HS2A.out (HMR.out w2))).2.1; clear HR2 HV2 HW2 HS2A p0 p1 p2 p3 p4 p5 p6 p7; obtain ⟨W5, hW5⟩ : ∃ W5, W5 = ((w2.alloc (.cells (madeCells #[.slice none 0 0] x.f1.length) 25)).setCell ⟨w.heap.size, k * 2, none⟩ (.slice A2 x.f0.length c2)).setCell ⟨w.heap.size, k * 2 + 1, none⟩ (.slice (some ⟨w2.heap.size, 0, none⟩) x.f1.length x.f1.length) := ⟨_, rfl⟩; rw [← hW5] at HM hbx; rw [← hW5]; clear hW5; obtain ⟨h, hh⟩ : ∃ h, h = w2.heap.size := ⟨_, rfl⟩; rw [← hh] at HM ⊢; clear hh)
        | (obtain ⟨cur3, hM⟩ := CopyMid.start (m := x.f1.length) (h := W1.heap.size) (wx := w2) HO1.out HW2.out (Nat.le_refl _) hlk hlt (Kd.R_lower HV2.out.1 (by first | omega | (simp; omega))) ((HV2.out.2.block _ (by simp)).trans (heap_alloc_new W1 _)) (below_then HB1.out HB1.out.size HW2.out); have HM := Aside0.mk hM; clear hM; have hbx := (HSE.out (.slice A2 x.f0.length c2) (.slice (some ⟨W1.heap.size, 0, none⟩) x.f1.length x.f1.length) HS2A.out).2.1; clear HR2 HV2 HW2 HS2A p0 p1 p2 p3 p4 p5 p6 p7; obtain ⟨W5, hW5⟩ : ∃ W5, W5 = (w2.setCell ⟨w.heap.size, k * 2, none⟩ (.slice A2 x.f0.length c2)).setCell ⟨w.heap.size, k * 2 + 1, none⟩ (.slice (some ⟨W1.heap.size, 0, none⟩) x.f1.length x.f1.length) := ⟨_, rfl⟩; rw [← hW5] at HM hbx; rw [← hW5]; clear hW5; obtain ⟨h, hh⟩ : ∃ h, h = W1.heap.size := ⟨_, rfl⟩; rw [← hh] at HM ⊢; clear hh)
        go_wp2_with fail
        go_loopw [32] (fun i W => ∃ (j : Nat) (curR : Array Value), j ≤ x.f1.length ∧ i = .int .i64 j ∧ Aside0 (CopyMid w W h cur3 curR l.length k x.f1.length (l.take k) x A2 c2 (x.f1.take j))) (fun i _ => x.f1.length - (intOf i).toNat)
        case atStart => exact ⟨0, _, Nat.zero_le _, rfl, ⟨by simpa using HM.out⟩⟩
        case round =>
          clear HM
          obtain ⟨j, curR, hj, rfl, HM⟩ := hrel
          have r0 := HM.out.rels.cell (k * 2 + 1) (by omega)
          rw [HM.out.h1] at r0
          by_cases hjl : j < x.f1.length
          · obtain ⟨ad2, By, cy, rfl, hy, hly, hcy⟩ := at_row HRX.out.1.rows HM.out.bel j hjl
            have hjl' : (j : Int) < (x.f1.length : Int) := by omega
            have htk : x.f1.take (j + 1) = x.f1.take j ++ [x.f1.getD j []] := by rw [List.take_succ_eq_append_getElem hjl, getD_get _ _ hjl]
            have hyl := HRX.out.2.1.2.2 (x.f1.getD j []) (by rw [getD_get _ _ hjl]; exact List.getElem_mem hjl)
            obtain ⟨y, hye⟩ : ∃ y, y = x.f1.getD j [] := ⟨_, rfl⟩
            rw [← hye] at hy hcy htk hyl
            have HTK := Aside0.mk (And.intro htk hcy)
            clear htk hye hcy
            go_upto_region 9 with fail
            have hgh : w.heap.size ≠ h := by have := HM.out.lt; omega
            have JST := Aside0.mk (show ∀ {W W' : World}, (W.cell? ⟨w.heap.size, k * 2 + 1, none⟩ = some (.slice (some ⟨h, 0, none⟩) x.f1.length x.f1.length) ∧ But wr h W) → Below W.heap.size W W' → (W'.cell? ⟨w.heap.size, k * 2 + 1, none⟩ = some (.slice (some ⟨h, 0, none⟩) x.f1.length x.f1.length) ∧ But wr h W') from fun {W W'} h hb => ⟨(hb.cell (World.block_lt_of_cell? W _ h.1)).trans h.1, h.2.step hb⟩)
            have JSE := Aside0.mk (show ∀ {W : World} (i : Nat) (u : Value), (W.cell? ⟨w.heap.size, k * 2 + 1, none⟩ = some (.slice (some ⟨h, 0, none⟩) x.f1.length x.f1.length) ∧ But wr h W) → ((W.setCell ⟨h, i, none⟩ u).cell? ⟨w.heap.size, k * 2 + 1, none⟩ = some (.slice (some ⟨h, 0, none⟩) x.f1.length x.f1.length) ∧ But wr h (W.setCell ⟨h, i, none⟩ u)) from fun {W} i u q => ⟨cell_set_ne q.1 hgh i u, q.2.set i u⟩)
            have JS0 := Aside0.mk (show wr.cell? ⟨w.heap.size, k * 2 + 1, none⟩ = some (.slice (some ⟨h, 0, none⟩) x.f1.length x.f1.length) ∧ But wr h wr from ⟨r0, But.of h (Below.refl wr.heap.size wr)⟩)
            have JSD := Aside0.mk (JST.out JS0.out (below_drew (Below.refl _ _)))
            go_region_held3 (fun W => W.cell? ⟨w.heap.size, k * 2 + 1, none⟩ = some (.slice (some ⟨h, 0, none⟩) x.f1.length x.f1.length) ∧ But wr h W)
              (first | with_reducible exact JS4.out | with_reducible exact JSD.out | with_reducible exact JS0.out | with_reducible exact JST.out (by assumption) (below_drew (Below.refl _ _)) | with_reducible exact JSE.out _ _ JS4.out)
              (first
                | (go_at_call 30; refine (slices_Clone_any By cy y _ (Kd.C_below HTK.out.2 (by first | exact Below.refl _ _ | exact below_drew (Below.refl _ _))) (by omega)).mono ?_; rintro e w4 ⟨v4, rfl, hv4, hb4⟩; have hb5 : Below wr.heap.size wr w4 := (by first | exact hb4 | exact below_then (below_drew (Below.refl _ _)) (Nat.le_refl _) hb4); have hv5 : Kd.R KI 3 w4 wr.heap.size AnyB v4 y := (by first | exact hv4 | exact Kd.R_lower hv4 (Nat.le_refl _)); have HP := Aside0.mk (HM.out.push hb5 hv5 (j := j) (by rw [List.length_take]; omega) hjl); have hrw := HM.out.rows.keep hb5; have s0 := hrw.cell j (by rw [HM.out.size]; omega); have s1 := hrw.frozen j; have JS4 := Aside0.mk (JST.out (by assumption) hb4); obtain ⟨A4, c4, rfl, _, _⟩ := Kd.R_reads hv4; clear hrw hv4 hb4 hb5 hv5))
            go_wp2_with fail
            go_roundw
            case measure => simp [intOf]; omega
            case rel => exact ⟨j + 1, _, by omega, by go_num, ⟨by rw [HTK.out.1]; exact HP.out⟩⟩
          · have hje : j = x.f1.length := by omega
            subst hje
            rw [List.take_length] at HM
            go_wp2_with fail
            go_roundw
            case measure => simp [intOf]; omega
            case rel => exact ⟨k + 1, cur3, by omega, by go_num, ⟨by rw [HRX.out.2.2]; exact HM.out.done hlk hlt hxl⟩, ⟨HM.out.bel⟩⟩
    · have hke : k = l.length := by omega
      subst hke
      rw [List.take_length] at HO
      go_wp2
      go_ret
      exact ⟨_, rfl, ⟨w.heap.size, cur, Nat.le_refl _, rfl, HO.out⟩, HB.out⟩
end Go.Proofs.YtpimooejnpdlpaaGreatDoor.G
