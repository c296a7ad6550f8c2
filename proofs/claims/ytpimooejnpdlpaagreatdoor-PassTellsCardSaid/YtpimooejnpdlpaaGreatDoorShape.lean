/- Layer 16's shape, walked. -/
import Derived.Test.YtpimooejnpdlpaaGreatDoorML
set_option linter.unusedVariables false
set_option linter.unusedSimpArgs false
namespace Go.Proofs.YtpimooejnpdlpaaGreatDoor.G
open Go.RowKit Go.Proofs.YtpimooejnpdlpaaGreatDoorW.PrintWords Go.Proofs.YtpimooejnpdlpaaGreatDoorW.PrintLast Go.Proofs.YtpimooejnpdlpaaGreatDoorW.PrintMore Go.Proofs.YtpimooejnpdlpaaGreatDoor.PRefs

theorem made_ints (n : Nat) : madeCells #[.int .i64 0] n = ((List.replicate n (0 : Int)).map (Value.int .i64)).toArray := by
  refine Array.ext (by simp [madeCells]) fun i h1 h2 => ?_
  simp [madeCells, Nat.mod_one]
/-- A row of numbers in a block. -/
structure RowIs (W : World) (h : Nat) (xs : List Int) : Prop where
  blk : W.heap[h]? = some (.cells (xs.map (Value.int .i64)).toArray 3 (0, 0))
theorem RowIs.cell {W : World} {h : Nat} {xs : List Int} (hr : RowIs W h xs) (j : Nat) (hj : j < xs.length) : W.cell? ⟨h, j, none⟩ = some (.int .i64 (rd xs (j : Int))) := by
  rw [cell_of_row W h j _ _ _ hr.blk]; simp [hj, rd_get]
theorem RowIs.frozen {W : World} {h : Nat} {xs : List Int} (hr : RowIs W h xs) (j : Nat) : W.frozen? ⟨h, j, none⟩ = false := by simp [World.frozen?, hr.blk]
theorem RowIs.put {W : World} {h : Nat} {xs : List Int} (hr : RowIs W h xs) (j : Nat) (v : Int) : RowIs (W.setCell ⟨h, j, none⟩ (.int .i64 v)) h (xs.set j v) := by
  refine ⟨?_⟩
  rw [blk_set hr.blk j (.int .i64 v)]
  congr 2
  refine Array.ext (by simp) fun i h1 h2 => ?_
  simp [Array.getElem_setIfInBounds, List.getElem_set]
theorem RowIs.row {W : World} {h : Nat} {xs : List Int} (hr : RowIs W h xs) (base : Nat) (hb : base ≤ h) (hm : xs.length ≤ 1000000000) : Kd.R KI 3 W base AnyB (.slice (some ⟨h, 0, none⟩) xs.length xs.length) xs :=
  IntsAt.row (cur := (xs.map (Value.int .i64)).toArray) ⟨hr.blk, by simp, fun j hj => by simp [hj, rd_get xs j hj]⟩ hb hm
theorem unite1_is {W : World} {A B : Option Addr} {c d : Nat} {s : List Int} {m : Int} (h : Kd.C KI W A s.length s) (hc : s.length ≤ c) (h' : Kd.C KI W B 1 [m]) (hd : 1 ≤ d) (hl : s.length ≤ 900) :
    Calls Tryz.prog 14 #[.slice A s.length c, .slice B 1 d] W fun e w' => ∃ v, e = .returned v ∧ Kd.R KI 3 w' W.heap.size AnyB v (uni1 s m) ∧ Below W.heap.size W w' :=
  refunite_any (m := [m]) h h' (by omega) (by simp) rfl
theorem infoRel' : (Tryz.prog.info? 39).map (fun i => (i.zero, i.size, i.bytes)) = some (some (.agg #[.slice none 0 0, .slice none 0 0]), (k39).sz, 48) := infoRel
theorem getD_PT (l : List S41) (k : Nat) (h : k < l.length) : rd_T41 l (k : Int) = l[k] := by
  unfold rd_T41
  rw [Int.toNat_natCast, List.getD_eq_getElem?_getD, List.getElem?_eq_getElem h]; rfl

theorem R_lit0L (w : World) (ok : Nat → Prop) (h : ok w.heap.size) : Kd.R KL 25 (w.alloc (.cells #[] 25)) w.heap.size ok (.slice (some ⟨w.heap.size, 0, none⟩) 0 0) [] :=
  ⟨fun k hk => by have : k = w.heap.size := by simpa [Value.ownBlock] using hk.symm
                  rw [this]; exact h, [], World.ownsRow_made w #[] 0 (Nat.le_refl _) (Nat.zero_le _) (by simp), Reps.none _ _⟩
theorem FK_row {W : World} {v : Value} {x : List Int} {base : Nat} (h : Kd.R KI 3 W base AnyB v x) : Kd.FK KL W (fun k => base ≤ k ∧ k < W.heap.size) x [v] := by
  have h1 : Kd.R KI 3 W base (fun k => base ≤ k ∧ k < W.heap.size) v x := Kd.R_mono (Kd.R_bound h) (fun k hk => ⟨hk.2.1, hk.2.2.1⟩)
  obtain ⟨A, c, rfl, hl, _⟩ := Kd.R_reads h1
  refine Kd.FK_slice_mk hl ?_
  intro W2 hW
  obtain ⟨A', c', e, _, hC⟩ := Kd.R_reads (Kd.R_step h1 (w1 := W2) (fun k hk hlt => hW k hk hlt))
  injection e with e1 e2 e3
  rw [e1]; exact hC
theorem take_len {α : Type} (l : List α) (k : Nat) (h : k ≤ l.length) : (l.take k).length = k := by rw [List.length_take]; omega
theorem map_snoc {α β : Type} (l : List α) (k : Nat) (h : k < l.length) (f : α → β) : (l.take (k + 1)).map f = (l.take k).map f ++ [f l[k]] := by rw [List.take_succ_eq_append_getElem h, List.map_append]; rfl
theorem shBags_snoc (l : List S41) (k : Nat) (h : k < l.length) (h6 : k < 6) : shBags (l.take (k + 1)) = shBags (l.take k) ++ [shS l[k].f1] := by
  unfold shBags
  rw [List.take_take, List.take_take, Nat.min_eq_right (by omega), Nat.min_eq_right (by omega), map_snoc l k h]
theorem shRels_snoc (l : List S41) (k : Nat) (h : k < l.length) (h6 : k < 6) : shRels (l.take (k + 1)) = shRels (l.take k) ++ [⟨shS l[k].f1, smallRows3 (shS l[k].f1).length l[k].f2⟩] := by
  unfold shRels
  rw [List.take_take, List.take_take, Nat.min_eq_right (by omega), Nat.min_eq_right (by omega), map_snoc l k h]
theorem shPars_snoc (l : List S41) (k : Nat) (h : k < l.length) (h6 : k < 6) : shPars (l.take (k + 1)) = shPars (l.take k) ++ [shPar k l[k].f0] := by
  unfold shPars
  rw [List.take_take, List.take_take, Nat.min_eq_right (by omega), Nat.min_eq_right (by omega), List.take_succ_eq_append_getElem h, List.mapIdx_append]
  simp [take_len l k (by omega)]
theorem sh_end (l : List S41) (k : Nat) (h : k = l.length ∨ k = 6) : shBags (l.take k) = shBags l ∧ shPars (l.take k) = shPars l ∧ shRels (l.take k) = shRels l := by
  have e : (l.take k).take 6 = l.take 6 := by
    rw [List.take_take]
    rcases h with h | h
    · by_cases h6 : 6 ≤ k
      · rw [Nat.min_eq_left h6]
      · rw [Nat.min_eq_right (by omega), h, List.take_length, List.take_of_length_le (by omega)]
    · rw [h, Nat.min_self]
  unfold shBags shPars shRels
  rw [e]; exact ⟨rfl, rfl, rfl⟩
theorem shBags_len (l : List S41) : (shBags l).length ≤ 6 := by unfold shBags; simp; omega
theorem shRels_len (l : List S41) : (shRels l).length ≤ 6 := by unfold shRels; simp; omega
theorem shPars_len (l : List S41) : (shPars l).length ≤ 6 := by unfold shPars; simp; omega
theorem shS_take (l : List Int) (j : Nat) (h : ¬ j < l.length ∨ ¬ j < 3) (hj : j ≤ l.length) (hj3 : j ≤ 3) : (l.take j).foldl (fun s v => uni1 s (md v 6)) [] = shS l := by
  unfold shS
  congr 1
  rcases h with h | h
  · rw [List.take_of_length_le (by omega), List.take_of_length_le (by omega)]
  · rw [show j = 3 by omega]
theorem rows_take (l : List (List Int)) (n j : Nat) (h : ¬ j < l.length ∨ ¬ j < 12) (hj : j ≤ l.length) (hj3 : j ≤ 12) : Pl.sortU ((l.take j).map (smallRow n)) = smallRows3 n l := by
  unfold smallRows3
  congr 2
  rcases h with h | h
  · rw [List.take_of_length_le (by omega), List.take_of_length_le (by omega)]
  · rw [show j = 12 by omega]
theorem sort12_is {W : World} {A : Option Addr} {c : Nat} {L R : List (List Int)} (h : Kd.C KL W A L.length L) (hc : L.length ≤ c) (hl : L.length ≤ 12) (hx : ∀ y ∈ L, y.length ≤ 3) (hR : Pl.sortU L = R) :
    Calls Tryz.prog 15 #[.slice A L.length c] W fun e w' => ∃ v, e = .returned v ∧ Kd.N KL 25 w' W.heap.size (fun k => W.heap.size ≤ k) v R ∧ Below W.heap.size W w' :=
  refsort_any h (by omega) (fun y hy => by have := hx y hy; omega) hR

set_option maxHeartbeats 4000000 in
set_option maxRecDepth 100000 in
theorem shape_any (A0 : Option Addr) (c0 : Nat) (l : List S41) (w : World) (hr : Kd.C k41 w A0 l.length l) :
    Calls Tryz.prog 5 #[.slice A0 l.length c0] w fun e w' => ∃ vB vP vO, e = .returned (.tuple #[.agg #[vB, vP], vO]) ∧ ∃ W, Shp w W vB vP vO (shBags l) (shPars l) (shRels l) ∧ w' = (W.setCell ⟨w.heap.size, 0, none⟩ vB).setCell ⟨w.heap.size, 1, none⟩ vP := by
  have HR := Aside0.mk hr
  clear hr
  go_enter Tryz.func5, Tryz.ntmps5
  go_wp2_with fail
  have h0 : Shp w ((w.alloc (.cells #[.slice none 0 0, .slice none 0 0] 27)).alloc (.cells #[.slice none 0 0, .slice none 0 0] 27)) (.slice none 0 0) (.slice none 0 0) (.slice none 0 0) (shBags (l.take 0)) (shPars (l.take 0)) (shRels (l.take 0)) := by
    have h1 := heap_alloc_new (w.alloc (.cells #[.slice none 0 0, .slice none 0 0] 27)) (.cells #[.slice none 0 0, .slice none 0 0] 27)
    rw [World.size_alloc] at h1
    exact ⟨below_alloc (below_alloc (Below.refl _ _) _) _, (Below.heap_alloc _ _ _ (by simp)).trans (heap_alloc_new w _), h1, Kd.N_nil _ _ _ _ _, Kd.R_nil _ _ _ _ _, Kd.N_nil _ _ _ _ _⟩
  have HS := Aside0.mk h0
  clear h0
  generalize (w.alloc (.cells #[.slice none 0 0, .slice none 0 0] 27)).alloc (.cells #[.slice none 0 0, .slice none 0 0] 27) = W0 at HS ⊢
  go_loopw [5, 6] (fun v i W => ∃ (k : Nat) (Ab : Option Addr) (nb cb : Nat) (Ap : Option Addr) (np cp : Nat), k ≤ l.length ∧ k ≤ 6 ∧ i = .int .i64 k ∧ Aside0 (Shp w W (.slice Ab nb cb) (.slice Ap np cp) v (shBags (l.take k)) (shPars (l.take k)) (shRels (l.take k)))) (fun _ i _ => 6 - (intOf i).toNat)
  case atStart => exact ⟨0, none, 0, 0, none, 0, 0, Nat.zero_le _, by omega, rfl, HS⟩
  case round =>
    clear HS
    obtain ⟨k, Ab, nb, cb, Ap, np, cp, hk, hk6, rfl, HS⟩ := hrel
    by_cases hgo : k < l.length ∧ k < 6
    · obtain ⟨hlt, hlt6⟩ := hgo
      obtain ⟨ad, A1, c1, A2, c2, hA0, hx0, hx1, hx2, hl1, hr1, hl2, hr2⟩ := at_T41 HR.out (k : Int) (by omega) (by omega)
      subst hA0
      have hkl : (k : Int) < (l.length : Int) := by omega
      have hkl6 : (k : Int) < 6 := by omega
      replace hx0 := (HS.out.bel.cell (World.block_lt_of_cell? w _ hx0)).trans hx0
      replace hx1 := (HS.out.bel.cell (World.block_lt_of_cell? w _ hx1)).trans hx1
      replace hx2 := (HS.out.bel.cell (World.block_lt_of_cell? w _ hx2)).trans hx2
      simp only [Int.toNat_natCast] at hx0 hx1 hx2
      obtain ⟨x, hxe⟩ : ∃ x, x = rd_T41 l (k : Int) := ⟨_, rfl⟩
      rw [← hxe] at hx0 hx1 hx2 hl1 hr1 hl2 hr2
      have hxk : l[k] = x := by rw [hxe, getD_PT l k hlt]
      have HSN := Aside0.mk (And.intro (shBags_snoc l k hlt hlt6) (And.intro (shPars_snoc l k hlt hlt6) (shRels_snoc l k hlt hlt6)))
      rw [hxk] at HSN
      have HX := Aside0.mk (And.intro hr1 (And.intro hl1 (And.intro hr2 hl2)))
      clear hr1 hl1 hr2 hl2 hxe hxk
      rename World => wo
      have HX0 := Aside0.mk (And.intro hx0 (And.intro hx1 hx2))
      go_wp2_with fail
      have HA0 := Aside0.mk (And.intro (R_lit0 wo) (below_alloc (Below.refl wo.heap.size wo) (.cells #[] 3)))
      clear hx0 hx1 hx2
      generalize wo.alloc (.cells #[] 3) = W1 at HA0 ⊢
      go_loopw [7, 8] (fun v i W => ∃ (j : Nat) (s : List Int), j ≤ x.f1.length ∧ j ≤ 3 ∧ i = .int .i64 j ∧ s.length ≤ j ∧ Aside0 (s = (x.f1.take j).foldl (fun s v => uni1 s (md v 6)) [] ∧ Kd.R KI 3 W wo.heap.size AnyB v s ∧ Below wo.heap.size wo W)) (fun _ i _ => 3 - (intOf i).toNat)
      case atStart => exact ⟨0, [], Nat.zero_le _, by omega, rfl, by simp, ⟨rfl, HA0.out⟩⟩
      case round =>
        clear HA0
        obtain ⟨j, s, hj, hj3, rfl, hsl, HA⟩ := hrel
        have hx1 := (HA.out.2.2.cell (World.block_lt_of_cell? wo _ HX0.out.2.1)).trans HX0.out.2.1
        obtain ⟨A7, c7, rfl, hc7, hC7⟩ := Kd.R_reads HA.out.2.1
        by_cases hgoA : j < x.f1.length ∧ j < 3
        · obtain ⟨hjl, hjl3⟩ := hgoA
          obtain ⟨ad2, rfl, hy⟩ := at_int' HX.out.1 (HS.out.bel.trans (HA.out.2.2.mono HS.out.bel.size)) (j : Int) (by omega) (by omega)
          simp only [Int.toNat_natCast] at hy
          have hjl' : (j : Int) < (x.f1.length : Int) := by omega
          have hjl3' : (j : Int) < 3 := by omega
          have hfs : (x.f1.take (j + 1)).foldl (fun s v => uni1 s (md v 6)) [] = uni1 s (md (rd x.f1 (j : Int)) 6) := by rw [take_succ_rd _ _ hjl, List.foldl_append, ← HA.out.1]; rfl
          have HFS := Aside0.mk hfs
          have HC7 := Aside0.mk hC7
          clear hfs hC7
          go_wp2_with (go_at_call 14; refine (unite1_is (Kd.C_below HC7.out (below_alloc (Below.refl _ _) _)) hc7 (lit_ints1 wr _) (Nat.le_refl 1) (by omega)).mono ?_; rintro e w4 ⟨v4, rfl, hv4, hb4⟩; have HV4 := Aside0.mk (And.intro (Kd.R_lower hv4 (show wo.heap.size ≤ _ by have := HA.out.2.2.size; simp; omega)) (below_then (below_alloc HA.out.2.2 _) (by have := HA.out.2.2.size; simp; omega) hb4)); clear hv4 hb4)
          go_roundw
          case measure => simp [intOf]; omega
          case rel => exact ⟨j + 1, _, by omega, by omega, by go_num, by have := uni1_len s (md (rd x.f1 (j : Int)) 6); exact Nat.le_trans this (by omega), ⟨HFS.out.symm, HV4.out⟩⟩
        · have hsS : s = shS x.f1 := by rw [HA.out.1]; exact shS_take x.f1 j (by omega) hj hj3
          have HSS := Aside0.mk hsS
          have hs3 : s.length ≤ 3 := by rw [hsS]; exact shS_len _
          have hsplit : ¬ (j : Int) < (x.f1.length : Int) ∨ ((j : Int) < (x.f1.length : Int) ∧ ¬ (j : Int) < 3) := by omega
          have HA7 := Aside0.mk (And.intro HA.out.2.1 HA.out.2.2)
          have HC7 := Aside0.mk (And.intro hc7 hC7)
          clear hgoA hsS HA hC7 hc7
          rename World => wa
          rcases hsplit with hj' | ⟨hj1, hj2⟩
          all_goals
            go_wp2_with fail
            have hB0 : Kd.N KL 25 (wa.alloc (.cells #[] 25)) wa.heap.size (fun q => wa.heap.size ≤ q) (.slice (some ⟨wa.heap.size, 0, none⟩) 0 0) [] := Kd.R_N (R_lit0L wa (fun q => wa.heap.size ≤ q) (Nat.le_refl _))
            have HB0 := Aside0.mk (And.intro hB0 (below_alloc (Below.refl wa.heap.size wa) (.cells #[] 25)))
            clear hB0 hx1
            generalize wa.alloc (.cells #[] 25) = W2 at HB0 ⊢
            go_loopw [9, 10] (fun v i W => ∃ (j : Nat), j ≤ x.f2.length ∧ j ≤ 12 ∧ i = .int .i64 j ∧ Aside0 (Kd.N KL 25 W wa.heap.size (fun q => wa.heap.size ≤ q) v ((x.f2.take j).map (smallRow s.length)) ∧ Below wa.heap.size wa W)) (fun _ i _ => 12 - (intOf i).toNat)
            case atStart => exact ⟨0, Nat.zero_le _, by omega, rfl, ⟨by simpa using HB0.out⟩⟩
            case round =>
              clear HB0
              obtain ⟨jb, hjb, hjb12, rfl, HB⟩ := hrel
              have hBw := HA7.out.2.trans (HB.out.2.mono HA7.out.2.size)
              have hx2 := (hBw.cell (World.block_lt_of_cell? wo _ HX0.out.2.2)).trans HX0.out.2.2
              have HBW := Aside0.mk hBw
              clear hBw
              obtain ⟨A9, c9, rfl, hc9, hC9⟩ := Kd.N_reads HB.out.1
              have HC9 := Aside0.mk (And.intro hc9 hC9)
              clear hc9 hC9
              have hml : ((x.f2.take jb).map (smallRow s.length)).length = jb := by rw [List.length_map, take_len _ _ hjb]
              have HML := Aside0.mk hml
              clear hml
              by_cases hgoB : jb < x.f2.length ∧ jb < 12
              · obtain ⟨hjl, hjl12⟩ := hgoB
                obtain ⟨ad3, By, cy, rfl, hy, hly, hcy⟩ := at_row HX.out.2.2.1 (HS.out.bel.trans (HBW.out.mono HS.out.bel.size)) jb hjl
                have hjl' : (jb : Int) < (x.f2.length : Int) := by omega
                have hjl12' : (jb : Int) < 12 := by omega
                have hsn : (x.f2.take (jb + 1)).map (smallRow s.length) = (x.f2.take jb).map (smallRow s.length) ++ [smallRow s.length (x.f2.getD jb [])] := by rw [map_snoc _ _ hjl, getD_get _ _ hjl]
                obtain ⟨y, hye⟩ : ∃ y, y = x.f2.getD jb [] := ⟨_, rfl⟩
                rw [← hye] at hy hcy hsn
                have HSB := Aside0.mk (And.intro hsn (And.intro hcy (And.intro hx2 hy)))
                clear hsn hcy hye
                have hmk := fun W => run_make_row' (P := Tryz.prog) 25 3 (.int .i64 0) 8 Tryz.underlying25 infoInt rfl .i64 .i64 s.length (by omega) (by omega) W
                rename World => wb
                go_wp2_with fail
                clear hmk hx2 hy
                have hC0 : RowIs (wb.alloc (.cells (madeCells #[.int .i64 0] s.length) 3)) wb.heap.size (rowTo s.length y 0) := ⟨by rw [rowTo_zero, ← made_ints]; exact heap_alloc_new wb _⟩
                have HC0 := Aside0.mk (And.intro hC0 (below_alloc (Below.refl wb.heap.size wb) (.cells (madeCells #[.int .i64 0] s.length) 3)))
                clear hC0
                generalize wb.alloc (.cells (madeCells #[.int .i64 0] s.length) 3) = W3 at HC0 ⊢
                go_loopw [12] (fun i W => ∃ (q : Nat), q ≤ s.length ∧ i = .int .i64 q ∧ Aside0 (RowIs W wb.heap.size (rowTo s.length y q) ∧ Below wb.heap.size wb W)) (fun i _ => s.length - (intOf i).toNat)
                case atStart => exact ⟨0, Nat.zero_le _, rfl, HC0⟩
                case round =>
                  clear HC0
                  obtain ⟨q, hq, rfl, HC⟩ := hrel
                  have hx2 := (HC.out.2.cell (World.block_lt_of_cell? wb _ HSB.out.2.2.1)).trans HSB.out.2.2.1
                  have hy := (HC.out.2.cell (World.block_lt_of_cell? wb _ HSB.out.2.2.2)).trans HSB.out.2.2.2
                  by_cases hgoC : q < s.length ∧ q < y.length
                  · obtain ⟨hqn, hqy⟩ := hgoC
                    obtain ⟨ad4, rfl, hz⟩ := at_int' HSB.out.2.1 HC.out.2 (q : Int) (by omega) (by omega)
                    simp only [Int.toNat_natCast] at hz
                    have hqn' : (q : Int) < (s.length : Int) := by omega
                    have hqy' : (q : Int) < (y.length : Int) := by omega
                    have hcell := HC.out.1.cell q (by rw [rowTo_len]; exact hqn)
                    have hfr := HC.out.1.frozen q
                    have HP := Aside0.mk (And.intro (HC.out.1.put q (md (rd y (q : Int)) 3)) (HC.out.2.setCell (p := ⟨wb.heap.size, q, none⟩) (Nat.le_refl _) (.int .i64 (md (rd y (q : Int)) 3))))
                    go_wp2_with fail
                    go_roundw
                    case measure => simp [intOf]; omega
                    case rel => exact ⟨q + 1, by omega, by go_num, ⟨by rw [← rowTo_set s.length y q hqn hqy]; exact HP.out.1, HP.out.2⟩⟩
                  · have hrow : rowTo s.length y q = smallRow s.length y := rowTo_end _ _ _ (by omega)
                    have hR := HC.out.1.row wb.heap.size (Nat.le_refl _) (by rw [rowTo_len]; omega)
                    rw [hrow, smallRow_len] at hR
                    have HR7 := Aside0.mk (And.intro hR HC.out.2)
                    have hsplitC : ¬ (q : Int) < (s.length : Int) ∨ ((q : Int) < (s.length : Int) ∧ ¬ (q : Int) < (y.length : Int)) := by omega
                    have hlB := HB.out.1
                    have HLB := Aside0.mk (And.intro (Kd.N_below HB.out.1 HC.out.2) (Kd.N_lt HB.out.1))
                    clear hrow hR HC hgoC hlB
                    rcases hsplitC with hq' | ⟨hq1, hq2⟩
                    all_goals
                      go_wp2_with (at_builtin; refine Kd.N_append KL (w0 := wa) wa.heap.size rfl (.tmp 106) (.tmp 108) 24 25 (.slice none 0 0) 24 rfl Tryz.underlying24 infoInts rfl (by decide) (by omega) _ ((x.f2.take jb).map (smallRow s.length)) (smallRow s.length y) [.slice (some ⟨wb.heap.size, 0, none⟩) s.length s.length] (fun q => wa.heap.size ≤ q) (fun q => wb.heap.size ≤ q ∧ q < wr.heap.size) rfl rfl (FK_row HR7.out.1) (fun q hq => ⟨Nat.le_trans HB.out.2.size hq.1, fun e => by have := HLB.out.2 q e.symm; have := hq.1; omega⟩) (fun q hq => Nat.le_trans HB.out.2.size (Nat.le_trans HR7.out.2.size hq)) HLB.out.1 (HB.out.2.trans (HR7.out.2.mono HB.out.2.size)) (Nat.le_trans HB.out.2.size HR7.out.2.size) (by rw [HML.out]; omega) ?_; intro v5 w5 hv5 hb5 hg5 ha5; have HV5 := Aside0.mk (And.intro hv5 hb5); clear hv5 hb5 hg5 ha5)
                      go_roundw
                      case measure => simp [intOf]; omega
                      case rel => exact ⟨jb + 1, by omega, by omega, by go_num, ⟨by rw [HSB.out.1]; exact HV5.out.1, HV5.out.2⟩⟩
              · have hrows := rows_take x.f2 s.length jb (by omega) hjb hjb12
                have hsplitB : ¬ (jb : Int) < (x.f2.length : Int) ∨ ((jb : Int) < (x.f2.length : Int) ∧ ¬ (jb : Int) < 12) := by omega
                have hSZ := HS.out.step HBW.out
                have hrs := Kd.R_below HA7.out.1 HB.out.2
                have HSZ := Aside0.mk hSZ
                have hx0 := (HBW.out.cell (World.block_lt_of_cell? wo _ HX0.out.1)).trans HX0.out.1
                have q0 := blk2_c0 hSZ.box
                have q1 := blk2_c1 hSZ.box
                have hgw : w.heap.size + 1 < wo.heap.size := HS.out.lt
                have how : wo.heap.size ≤ wa.heap.size := HA7.out.2.size
                have haw : wa.heap.size ≤ wr.heap.size := HB.out.2.size
                have HRS := Aside0.mk (And.intro hrs (And.intro HB.out.1 hrows))
                have hown : ∀ q, wo.heap.size ≤ q → some q ≠ (Value.slice Ab nb cb).ownBlock ∧ some q ≠ (Value.slice Ap np cp).ownBlock ∧ some q ≠ u5.ownBlock := fun q hq => ⟨fun e => by have := HS.out.ltB q e.symm; omega, fun e => by have := HS.out.ltP q e.symm; omega, fun e => by have := HS.out.ltO q e.symm; omega⟩
                have HOW := Aside0.mk hown
                clear hown hSZ hrs hrows hgoB
                have hlB := shBags_len (l.take k)
                have hlP := shPars_len (l.take k)
                have hlR := shRels_len (l.take k)
                rename World => wz
                rcases hsplitB with hj' | ⟨hj1, hj2⟩
                all_goals
                  by_cases hk0 : 0 < k
                  · have hk0' : (0 : Int) < (k : Int) := by omega
                    have hk0n : ¬ (k : Int) = 0 := by omega
                    have hpv : shPar k x.f0 = md x.f0 (k : Int) := if_pos hk0
                    rw [hpv] at HSN
                    clear hpv
                    go_upto_region 24 with fail
                    clear hx0 hx2
                    go_upto_region 25 with (at_builtin; refine Kd.N_append KL (w0 := w) w.heap.size rfl (.tmp 121) (.tmp 123) 24 25 (.slice none 0 0) 24 rfl Tryz.underlying24 infoInts rfl (by decide) (by omega) (.slice Ab nb cb : Value) (shBags (l.take k)) s [.slice A7 s.length c7] (fun q => w.heap.size + 1 < q ∧ some q ≠ (Value.slice Ap np cp).ownBlock ∧ some q ≠ u5.ownBlock) (fun q => wo.heap.size ≤ q ∧ q < wz.heap.size) rfl rfl (FK_row HRS.out.1) (fun q hq => ⟨⟨by have := hq.1; omega, (HOW.out q hq.1).2.1, (HOW.out q hq.1).2.2⟩, (HOW.out q hq.1).1⟩) (fun q hq => ⟨by omega, (HOW.out q (by omega)).2.1, (HOW.out q (by omega)).2.2⟩) HSZ.out.bags HSZ.out.bel HSZ.out.bel.size (by omega) ?_; intro v1 w1 hN1 hb1 hg1 ha1; obtain ⟨Ab1, cb1, e1⟩ := Kd.N_slice hN1; obtain ⟨nb1, hnb1⟩ : ∃ n, n = (shBags (l.take k) ++ [s]).length := ⟨_, rfl⟩; rw [← hnb1] at e1; clear hnb1; subst e1; have hk1 := HSZ.out.boxB hg1; have p0 := blk2_c0 hk1; have p1 := blk_fr (i := 0) hk1; have H1 := Aside0.mk (And.intro (HSZ.out.pushB hN1 hb1 hg1 ha1) (And.intro (keepR (i := 0) (x := (.slice Ab1 nb1 cb1 : Value)) HRS.out.1 hg1 (fun q hq => HS.out.ltB q hq) hgw) (And.intro (keepN (i := 0) (x := (.slice Ab1 nb1 cb1 : Value)) HRS.out.2.1 hg1 (fun q hq => Nat.lt_of_lt_of_le (HS.out.ltB q hq) how) (Nat.lt_of_lt_of_le hgw how)) (And.intro ha1 (show wz.heap.size ≤ (w1.setCell ⟨w.heap.size + 1, 0, none⟩ (.slice Ab1 nb1 cb1 : Value)).heap.size from by have := hg1.size; simpa [World.setCell] using this))))); clear hN1 hb1 hg1 ha1 hk1)
                    (try clear p0); (try clear p1); (try clear q0); (try clear q1)
                    generalize w1.setCell ⟨w.heap.size + 1, 0, none⟩ (.slice Ab1 nb1 cb1 : Value) = w2 at H1 ⊢
                    have q0 := blk2_c0 H1.out.1.box
                    have q1 := blk2_c1 H1.out.1.box
                    go_upto_region 26 with (at_builtin; refine Kd.R_append KI (w0 := w) w.heap.size rfl (.tmp 127) (.tmp 129) 25 3 (.int .i64 0) 8 rfl Tryz.underlying25 infoInt rfl (by decide) (by omega) (.slice Ap np cp : Value) (shPars (l.take k)) (md x.f0 (k : Int)) [.int .i64 (md x.f0 (k : Int))] (fun q => w.heap.size + 1 < q ∧ some q ≠ (Value.slice Ab1 nb1 cb1).ownBlock ∧ some q ≠ u5.ownBlock) (fun _ => False) rfl rfl rfl (fun _ hq => hq.elim) (fun q hq => ⟨by have := H1.out.2.2.2.2; omega, fun e => by have := H1.out.1.ltB q e.symm; omega, fun e => by have := H1.out.1.ltO q e.symm; omega⟩) H1.out.1.pars H1.out.1.bel H1.out.1.bel.size (by omega) ?_; intro v3 w3 hN3 hb3 hg3 ha3; obtain ⟨Ap1, cp1, e3⟩ := Kd.R_slice hN3; obtain ⟨np1, hnp1⟩ : ∃ n, n = (shPars (l.take k) ++ [md x.f0 (k : Int)]).length := ⟨_, rfl⟩; rw [← hnp1] at e3; clear hnp1; subst e3; have hk3 := H1.out.1.boxP hg3; have p0 := blk2_c1 hk3; have p1 := blk_fr (i := 1) hk3; have H3 := Aside0.mk (And.intro (H1.out.1.pushP hN3 hb3 hg3 ha3) (And.intro (keepR (i := 1) (x := (.slice Ap1 np1 cp1 : Value)) H1.out.2.1 hg3 (fun q hq => HS.out.ltP q hq) hgw) (And.intro (keepN (i := 1) (x := (.slice Ap1 np1 cp1 : Value)) H1.out.2.2.1 hg3 (fun q hq => Nat.lt_of_lt_of_le (HS.out.ltP q hq) how) (Nat.lt_of_lt_of_le hgw how)) (And.intro ha3 (show w2.heap.size ≤ (w3.setCell ⟨w.heap.size + 1, 1, none⟩ (.slice Ap1 np1 cp1 : Value)).heap.size from by have := hg3.size; simpa [World.setCell] using this))))); clear hN3 hb3 hg3 ha3 hk3)
                    (try clear p0); (try clear p1); (try clear q0); (try clear q1)
                    generalize w3.setCell ⟨w.heap.size + 1, 1, none⟩ (.slice Ap1 np1 cp1 : Value) = w4 at H3 ⊢
                    have HC9' := Aside0.mk (And.intro (Kd.N_reads' H3.out.2.2.1).2.1 (Kd.N_reads' H3.out.2.2.1).2.2)
                    obtain ⟨R, hR⟩ : ∃ R, R = smallRows3 s.length x.f2 := ⟨_, rfl⟩
                    have HRR := Aside0.mk hR
                    have hR' := HRS.out.2.2.trans hR.symm
                    have HRT := Aside0.mk hR'
                    clear hR hR'
                    have hso := sort12_is HC9'.out.2 HC9'.out.1 (by rw [HML.out]; omega) (fun z hz => by obtain ⟨z0, _, rfl⟩ := List.mem_map.1 hz; rw [smallRow_len]; exact hs3) HRT.out
                    rw [HML.out] at hso
                    have HSO := Aside0.mk hso
                    clear hso
                    go_wp2_with (first
                      | (have hgd := H5; clear hgd; at_builtin; refine Kd.N_append k39 (w0 := w) w.heap.size rfl (.tmp 132) (.tmp 137) 28 39 (.agg #[.slice none 0 0, .slice none 0 0]) 48 rfl Tryz.underlying28 infoRel' rfl (by decide) (by omega) u5 (shRels (l.take k)) ⟨s, R⟩ [.slice A7 s.length c7, .slice A11 R.length c11] (fun q => w.heap.size + 1 < q ∧ some q ≠ (Value.slice Ab1 nb1 cb1).ownBlock ∧ some q ≠ (Value.slice Ap1 np1 cp1).ownBlock) (fun q => (wo.heap.size ≤ q ∧ q < w5.heap.size ∧ some q ≠ (Value.slice Ab1 nb1 cb1).ownBlock ∧ some q ≠ (Value.slice Ap1 np1 cp1).ownBlock) ∨ w4.heap.size ≤ q) rfl rfl (k39_mkF _ _ ⟨s, R⟩ HC7.out.1 H5.out.1 H5.out.2.2.1 (Kd.F_mono H5.out.2.1 (fun q hq => .inr hq))) H5.out.2.2.2.2.1 H5.out.2.2.2.2.2 H5.out.2.2.2.1.rels H5.out.2.2.2.1.bel H5.out.2.2.2.1.bel.size (by omega) ?_; intro v8 w8 hv8 hb8 hg8 ha8; have H6 := Aside0.mk (H5.out.2.2.2.1.pushO hv8 hb8 hg8 ha8); clear hv8 hb8 hg8 ha8)
                      | (go_at_call 15; refine HSO.out.mono ?_; rintro e w5 ⟨v5, rfl, hv5, hb5⟩; obtain ⟨A11, c11, rfl, hc11, _⟩ := Kd.N_reads hv5; have H5 := Aside0.mk (shape_step HS.out H1.out.2.2.2.1 H1.out.2.2.2.2 H1.out.1 H3.out.2.2.2.1 H3.out.2.2.2.2 H3.out.1 HSZ.out.bel.size H3.out.2.1 hv5 hc11 hb5 hgw (fun q hq => R_lt HRS.out.1 q hq.symm)); clear hv5 hb5 hc11))
                    go_roundw
                    case measure => simp [intOf]; omega
                    case rel => exact ⟨k + 1, Ab1, nb1, cb1, Ap1, np1, cp1, by omega, by omega, by go_num, ⟨by rw [HSN.out.1, HSN.out.2.1, HSN.out.2.2, ← HSS.out, ← HRR.out]; exact H6.out⟩⟩
                  · have hk0' : ¬ (0 : Int) < (k : Int) := by omega
                    have hpv : shPar k x.f0 = -1 := if_neg hk0
                    rw [hpv] at HSN
                    clear hpv
                    go_upto_region 24 with fail
                    clear hx0 hx2
                    go_upto_region 25 with (at_builtin; refine Kd.N_append KL (w0 := w) w.heap.size rfl (.tmp 121) (.tmp 123) 24 25 (.slice none 0 0) 24 rfl Tryz.underlying24 infoInts rfl (by decide) (by omega) (.slice Ab nb cb : Value) (shBags (l.take k)) s [.slice A7 s.length c7] (fun q => w.heap.size + 1 < q ∧ some q ≠ (Value.slice Ap np cp).ownBlock ∧ some q ≠ u5.ownBlock) (fun q => wo.heap.size ≤ q ∧ q < wz.heap.size) rfl rfl (FK_row HRS.out.1) (fun q hq => ⟨⟨by have := hq.1; omega, (HOW.out q hq.1).2.1, (HOW.out q hq.1).2.2⟩, (HOW.out q hq.1).1⟩) (fun q hq => ⟨by omega, (HOW.out q (by omega)).2.1, (HOW.out q (by omega)).2.2⟩) HSZ.out.bags HSZ.out.bel HSZ.out.bel.size (by omega) ?_; intro v1 w1 hN1 hb1 hg1 ha1; obtain ⟨Ab1, cb1, e1⟩ := Kd.N_slice hN1; obtain ⟨nb1, hnb1⟩ : ∃ n, n = (shBags (l.take k) ++ [s]).length := ⟨_, rfl⟩; rw [← hnb1] at e1; clear hnb1; subst e1; have hk1 := HSZ.out.boxB hg1; have p0 := blk2_c0 hk1; have p1 := blk_fr (i := 0) hk1; have H1 := Aside0.mk (And.intro (HSZ.out.pushB hN1 hb1 hg1 ha1) (And.intro (keepR (i := 0) (x := (.slice Ab1 nb1 cb1 : Value)) HRS.out.1 hg1 (fun q hq => HS.out.ltB q hq) hgw) (And.intro (keepN (i := 0) (x := (.slice Ab1 nb1 cb1 : Value)) HRS.out.2.1 hg1 (fun q hq => Nat.lt_of_lt_of_le (HS.out.ltB q hq) how) (Nat.lt_of_lt_of_le hgw how)) (And.intro ha1 (show wz.heap.size ≤ (w1.setCell ⟨w.heap.size + 1, 0, none⟩ (.slice Ab1 nb1 cb1 : Value)).heap.size from by have := hg1.size; simpa [World.setCell] using this))))); clear hN1 hb1 hg1 ha1 hk1)
                    (try clear p0); (try clear p1); (try clear q0); (try clear q1)
                    generalize w1.setCell ⟨w.heap.size + 1, 0, none⟩ (.slice Ab1 nb1 cb1 : Value) = w2 at H1 ⊢
                    have q0 := blk2_c0 H1.out.1.box
                    have q1 := blk2_c1 H1.out.1.box
                    go_upto_region 26 with (at_builtin; refine Kd.R_append KI (w0 := w) w.heap.size rfl (.tmp 127) (.tmp 129) 25 3 (.int .i64 0) 8 rfl Tryz.underlying25 infoInt rfl (by decide) (by omega) (.slice Ap np cp : Value) (shPars (l.take k)) (-1) [.int .i64 (-1)] (fun q => w.heap.size + 1 < q ∧ some q ≠ (Value.slice Ab1 nb1 cb1).ownBlock ∧ some q ≠ u5.ownBlock) (fun _ => False) rfl rfl rfl (fun _ hq => hq.elim) (fun q hq => ⟨by have := H1.out.2.2.2.2; omega, fun e => by have := H1.out.1.ltB q e.symm; omega, fun e => by have := H1.out.1.ltO q e.symm; omega⟩) H1.out.1.pars H1.out.1.bel H1.out.1.bel.size (by omega) ?_; intro v3 w3 hN3 hb3 hg3 ha3; obtain ⟨Ap1, cp1, e3⟩ := Kd.R_slice hN3; obtain ⟨np1, hnp1⟩ : ∃ n, n = (shPars (l.take k) ++ [-1]).length := ⟨_, rfl⟩; rw [← hnp1] at e3; clear hnp1; subst e3; have hk3 := H1.out.1.boxP hg3; have p0 := blk2_c1 hk3; have p1 := blk_fr (i := 1) hk3; have H3 := Aside0.mk (And.intro (H1.out.1.pushP hN3 hb3 hg3 ha3) (And.intro (keepR (i := 1) (x := (.slice Ap1 np1 cp1 : Value)) H1.out.2.1 hg3 (fun q hq => HS.out.ltP q hq) hgw) (And.intro (keepN (i := 1) (x := (.slice Ap1 np1 cp1 : Value)) H1.out.2.2.1 hg3 (fun q hq => Nat.lt_of_lt_of_le (HS.out.ltP q hq) how) (Nat.lt_of_lt_of_le hgw how)) (And.intro ha3 (show w2.heap.size ≤ (w3.setCell ⟨w.heap.size + 1, 1, none⟩ (.slice Ap1 np1 cp1 : Value)).heap.size from by have := hg3.size; simpa [World.setCell] using this))))); clear hN3 hb3 hg3 ha3 hk3)
                    (try clear p0); (try clear p1); (try clear q0); (try clear q1)
                    generalize w3.setCell ⟨w.heap.size + 1, 1, none⟩ (.slice Ap1 np1 cp1 : Value) = w4 at H3 ⊢
                    have HC9' := Aside0.mk (And.intro (Kd.N_reads' H3.out.2.2.1).2.1 (Kd.N_reads' H3.out.2.2.1).2.2)
                    obtain ⟨R, hR⟩ : ∃ R, R = smallRows3 s.length x.f2 := ⟨_, rfl⟩
                    have HRR := Aside0.mk hR
                    have hR' := HRS.out.2.2.trans hR.symm
                    have HRT := Aside0.mk hR'
                    clear hR hR'
                    have hso := sort12_is HC9'.out.2 HC9'.out.1 (by rw [HML.out]; omega) (fun z hz => by obtain ⟨z0, _, rfl⟩ := List.mem_map.1 hz; rw [smallRow_len]; exact hs3) HRT.out
                    rw [HML.out] at hso
                    have HSO := Aside0.mk hso
                    clear hso
                    go_wp2_with (first
                      | (have hgd := H5; clear hgd; at_builtin; refine Kd.N_append k39 (w0 := w) w.heap.size rfl (.tmp 132) (.tmp 137) 28 39 (.agg #[.slice none 0 0, .slice none 0 0]) 48 rfl Tryz.underlying28 infoRel' rfl (by decide) (by omega) u5 (shRels (l.take k)) ⟨s, R⟩ [.slice A7 s.length c7, .slice A11 R.length c11] (fun q => w.heap.size + 1 < q ∧ some q ≠ (Value.slice Ab1 nb1 cb1).ownBlock ∧ some q ≠ (Value.slice Ap1 np1 cp1).ownBlock) (fun q => (wo.heap.size ≤ q ∧ q < w5.heap.size ∧ some q ≠ (Value.slice Ab1 nb1 cb1).ownBlock ∧ some q ≠ (Value.slice Ap1 np1 cp1).ownBlock) ∨ w4.heap.size ≤ q) rfl rfl (k39_mkF _ _ ⟨s, R⟩ HC7.out.1 H5.out.1 H5.out.2.2.1 (Kd.F_mono H5.out.2.1 (fun q hq => .inr hq))) H5.out.2.2.2.2.1 H5.out.2.2.2.2.2 H5.out.2.2.2.1.rels H5.out.2.2.2.1.bel H5.out.2.2.2.1.bel.size (by omega) ?_; intro v8 w8 hv8 hb8 hg8 ha8; have H6 := Aside0.mk (H5.out.2.2.2.1.pushO hv8 hb8 hg8 ha8); clear hv8 hb8 hg8 ha8)
                      | (go_at_call 15; refine HSO.out.mono ?_; rintro e w5 ⟨v5, rfl, hv5, hb5⟩; obtain ⟨A11, c11, rfl, hc11, _⟩ := Kd.N_reads hv5; have H5 := Aside0.mk (shape_step HS.out H1.out.2.2.2.1 H1.out.2.2.2.2 H1.out.1 H3.out.2.2.2.1 H3.out.2.2.2.2 H3.out.1 HSZ.out.bel.size H3.out.2.1 hv5 hc11 hb5 hgw (fun q hq => R_lt HRS.out.1 q hq.symm)); clear hv5 hb5 hc11))
                    go_roundw
                    case measure => simp [intOf]; omega
                    case rel => exact ⟨k + 1, Ab1, nb1, cb1, Ap1, np1, cp1, by omega, by omega, by go_num, ⟨by rw [HSN.out.1, HSN.out.2.1, HSN.out.2.2, ← HSS.out, ← HRR.out]; exact H6.out⟩⟩
    · have he := sh_end l k (by omega)
      have hsplit : ¬ (k : Int) < (l.length : Int) ∨ ((k : Int) < (l.length : Int) ∧ ¬ (k : Int) < 6) := by omega
      have q0 := blk2_c0 HS.out.box
      have q1 := blk2_c1 HS.out.box
      have r0 := blk2_c0 HS.out.res
      have r1 := blk_fr (i := 0) HS.out.res
      have hs1 := blk2_s0 HS.out.res (.slice Ab nb cb)
      have r2 := blk2_c1 hs1
      have r3 := blk_fr (i := 1) hs1
      have hs2 := blk2_s1 hs1 (.slice Ap np cp)
      have r4 := blk2_c0 hs2
      have r5 := blk2_c1 hs2
      have HE := Aside0.mk he
      clear he hs1 hs2 hgo
      rcases hsplit with hk' | ⟨hk1, hk2⟩
      all_goals
        go_wp2_with fail
        refine bodyPost_ret (v := .tuple #[.agg #[.slice Ab nb cb, .slice Ap np cp], u5]) (by simp [results, Tryz.results5, go_sem, r4, r5]) rfl ?_
        have hs := HS.out
        rw [HE.out.1, HE.out.2.1, HE.out.2.2] at hs
        exact ⟨_, _, _, rfl, wr, hs, rfl⟩
end Go.Proofs.YtpimooejnpdlpaaGreatDoor.G
