-- PRINTED BY print.sh 35421559b90ae4d0a3588c463048766b98c2df88dd9212a6774a882060cdf62d: not written by this session
import Derived.Test.YtgpbhmcmbigbdaaGreatDoorPRefsx0
import Derived.Test.YtgpbhmcmbigbdaaGreatDoorPRefsx1
import Derived.Test.YtgpbhmcmbigbdaaGreatDoorPRefsx4
namespace Go.Proofs.YtgpbhmcmbigbdaaGreatDoor.PRefs
open Go.RowKit Go.Proofs.YtgpbhmcmbigbdaaGreatDoorW.PrintWords Go.Proofs.YtgpbhmcmbigbdaaGreatDoorW.PrintLast Go.Proofs.YtgpbhmcmbigbdaaGreatDoorW.PrintMore
attribute [local go_sem] max2_int min2_int max_two min_two max_three min_three max_four min_four   -- for this text's walks alone
set_option linter.unusedVariables false
set_option linter.unusedSimpArgs false

mutual
def arboristref03_Semijoin.l0 : Nat → Int → List Int → List (List Int) → List Int → List (List Int) → List Int → List (List Int) → Option (List Int × (List (List Int)))
  | 0, _, _, _, _, _, _, _ => none
  | k + 1, x6, x275000, x275001, x276000, x276001, x281000, x281001 => if x6 < (x275001.length : Int) then (arboristref03_Semijoin.l1 k x6 false 0 x275000 x275001 x276000 x276001 x281000 x281001) else (some (x281000, x281001))
def arboristref03_Semijoin.l1 : Nat → Int → Bool → Int → List Int → List (List Int) → List Int → List (List Int) → List Int → List (List Int) → Option (List Int × (List (List Int)))
  | 0, _, _, _, _, _, _, _, _, _ => none
  | k + 1, x6, x7, x8, x275000, x275001, x276000, x276001, x281000, x281001 => if x8 < (x276001.length : Int) then (if x7 = true then (arboristref03_Semijoin.l1 k x6 true (wrap64 (x8 + 1)) x275000 x275001 x276000 x276001 x281000 x281001) else (if 0 ≤ x6 then (if x6 < (x275001.length : Int) then (if 0 ≤ x8 then ((arboristref03_Fit.f k x275000 (rd_L1 x275001 x6) x276000 (rd_L1 x276001 x8)).bind fun t283 => (arboristref03_Semijoin.l1 k x6 t283 (wrap64 (x8 + 1)) x275000 x275001 x276000 x276001 x281000 x281001)) else (none)) else (none)) else (none))) else (if x7 = true then (if 0 ≤ x6 then (if x6 < (x275001.length : Int) then ((arboristref01_Copy.f (rd_L1 x275001 x6)).bind fun t285 => (if x281001.length < 5864062014805 then (arboristref03_Semijoin.l0 k (wrap64 (x6 + 1)) x275000 x275001 x276000 x276001 x281000 (x281001 ++ [t285])) else (none))) else (none)) else (none)) else (arboristref03_Semijoin.l0 k (wrap64 (x6 + 1)) x275000 x275001 x276000 x276001 x281000 x281001))
end
def arboristref03_Semijoin.f (k : Nat) (l0_0 : List Int) (l0_1 : List (List Int)) (l1_0 : List Int) (l1_1 : List (List Int)) : Option (List Int × (List (List Int))) := (arboristref01_Copy.f l0_0).bind fun t277 => (arboristref03_Semijoin.l0 k 0 l0_0 l0_1 l1_0 l1_1 t277 ([] : List (List Int)))
theorem arboristref03_Semijoin.mono_l : ∀ k, (∀ y0 y1 y2 y3 y4 y5 y6, LeO (arboristref03_Semijoin.l0 k y0 y1 y2 y3 y4 y5 y6) (arboristref03_Semijoin.l0 (k + 1) y0 y1 y2 y3 y4 y5 y6)) ∧ (∀ y0 y1 y2 y3 y4 y5 y6 y7 y8, LeO (arboristref03_Semijoin.l1 k y0 y1 y2 y3 y4 y5 y6 y7 y8) (arboristref03_Semijoin.l1 (k + 1) y0 y1 y2 y3 y4 y5 y6 y7 y8))
  | 0 => ⟨fun _ _ _ _ _ _ _ r h => by simp [arboristref03_Semijoin.l0] at h, fun _ _ _ _ _ _ _ _ _ r h => by simp [arboristref03_Semijoin.l1] at h⟩
  | k + 1 => by
    obtain ⟨ih0, ih1⟩ := arboristref03_Semijoin.mono_l k
    refine ⟨?_, ?_⟩
    · intro y0 y1 y2 y3 y4 y5 y6
      unfold arboristref03_Semijoin.l0
      repeat' first
      | (with_reducible exact ih0 _ _ _ _ _ _ _)
      | (with_reducible exact ih1 _ _ _ _ _ _ _ _ _)
      | (with_reducible exact arboristref03_Fit.mono _ _ _ _ _)
      | (with_reducible exact LeO.refl _)
      | (with_reducible exact LeO.none _)
      | (with_reducible refine LeO.ite ?_ ?_)
      | (with_reducible refine LeO.bind ?_ (fun _ => ?_))
      | exact ih0 _ _ _ _ _ _ _
      | exact ih1 _ _ _ _ _ _ _ _ _
      | exact arboristref03_Fit.mono _ _ _ _ _
      | exact LeO.none _
      | refine LeO.ite ?_ ?_
      | refine LeO.bind ?_ (fun _ => ?_)
    · intro y0 y1 y2 y3 y4 y5 y6 y7 y8
      unfold arboristref03_Semijoin.l1
      repeat' first
      | (with_reducible exact ih0 _ _ _ _ _ _ _)
      | (with_reducible exact ih1 _ _ _ _ _ _ _ _ _)
      | (with_reducible exact arboristref03_Fit.mono _ _ _ _ _)
      | (with_reducible exact LeO.refl _)
      | (with_reducible exact LeO.none _)
      | (with_reducible refine LeO.ite ?_ ?_)
      | (with_reducible refine LeO.bind ?_ (fun _ => ?_))
      | exact ih0 _ _ _ _ _ _ _
      | exact ih1 _ _ _ _ _ _ _ _ _
      | exact arboristref03_Fit.mono _ _ _ _ _
      | exact LeO.none _
      | refine LeO.ite ?_ ?_
      | refine LeO.bind ?_ (fun _ => ?_)
theorem arboristref03_Semijoin.mono : ∀ a0 a1 a2 a3 k, LeO (arboristref03_Semijoin.f k a0 a1 a2 a3) (arboristref03_Semijoin.f (k + 1) a0 a1 a2 a3) := by
  intro a0 a1 a2 a3 k
  obtain ⟨ih0, ih1⟩ := arboristref03_Semijoin.mono_l k
  unfold arboristref03_Semijoin.f
  repeat' first
      | (with_reducible exact ih0 _ _ _ _ _ _ _)
      | (with_reducible exact ih1 _ _ _ _ _ _ _ _ _)
      | (with_reducible exact arboristref03_Fit.mono _ _ _ _ _)
      | (with_reducible exact LeO.refl _)
      | (with_reducible exact LeO.none _)
      | (with_reducible refine LeO.ite ?_ ?_)
      | (with_reducible refine LeO.bind ?_ (fun _ => ?_))
      | exact ih0 _ _ _ _ _ _ _
      | exact ih1 _ _ _ _ _ _ _ _ _
      | exact arboristref03_Fit.mono _ _ _ _ _
      | exact LeO.none _
      | refine LeO.ite ?_ ?_
      | refine LeO.bind ?_ (fun _ => ?_)
def arboristref03_Semijoin.T9 : Bool × List (List Nat × List Nat) := (true, [([], []), ([0], [0]), ([1], [1]), ([2, 1], [1, 2]), ([1], [1]), ([4, 1], [1, 4]), ([1], [1]), ([5, 6, 1], [1, 5, 6]), ([7, 1], [1, 7]), ([1], [1]), ([9, 1], [1, 9]), ([1], [1]), ([11, 1], [1, 11]), ([1], [1]), ([12, 13, 1], [1, 12, 13]), ([14, 1], [1, 14]), ([3, 8, 10, 15, 1, 1], [1, 3, 8, 10, 15]), ([1, 16], [1, 16]), ([17, 16, 0, 1, 2, 3, 4, 5, 6, 7, 8, 9, 10, 11, 12, 13, 14, 15, 16, 17], [0, 17])])
def arboristref03_Semijoin.B9 : List Nat := [0, 1, 3, 7, 3, 19, 3, 115, 243, 3, 515, 3, 2051, 3, 14339, 30723, 65535, 131071, 262143]
theorem arboristref03_Semijoin.tab9 : rtab .any (opsOf Tryz.f14 9) = arboristref03_Semijoin.T9 := by kernel_rfl
theorem arboristref03_Semijoin.bits9 : waitsOk arboristref03_Semijoin.T9.2 arboristref03_Semijoin.B9 = true := by kernel_rfl
def arboristref03_Semijoin.T11 : Bool × List (List Nat × List Nat) := (true, [([], []), ([0], [0]), ([], []), ([2], [2]), ([], []), ([3, 4], [3, 4]), ([5], [5]), ([6], [6]), ([7], [7]), ([1, 8, 7], [1, 8]), ([0, 1, 2, 3, 4, 5, 6, 7, 8, 9], []), ([10, 9, 9, 0, 1, 2, 3, 4, 5, 6, 7, 8, 9], [9, 10])])
def arboristref03_Semijoin.B11 : List Nat := [0, 1, 0, 4, 0, 28, 60, 124, 252, 511, 1023, 2047]
theorem arboristref03_Semijoin.tab11 : rtab .any (opsOf Tryz.f14 11) = arboristref03_Semijoin.T11 := by kernel_rfl
theorem arboristref03_Semijoin.bits11 : waitsOk arboristref03_Semijoin.T11.2 arboristref03_Semijoin.B11 = true := by kernel_rfl
set_option maxHeartbeats 8000000 in
set_option maxRecDepth 100000 in
theorem arboristref03_Semijoin.calls (k : Nat) (A0_0 : Option Addr) (c0_0 : Nat) (l0_0 : List Int) (A0_1 : Option Addr) (c0_1 : Nat) (l0_1 : List (List Int)) (A1_0 : Option Addr) (c1_0 : Nat) (l1_0 : List Int) (A1_1 : Option Addr) (c1_1 : Nat) (l1_1 : List (List Int)) (r1 : List Int) (r2 : List (List Int)) (w : World) (hr0_0 : Kd.C (Kd.int .i64) w A0_0 l0_0.length l0_0) (hc0_0 : l0_0.length ≤ c0_0) (hr0_1 : Kd.C (Kd.slice 3 (Kd.int .i64)) w A0_1 l0_1.length l0_1) (hc0_1 : l0_1.length ≤ c0_1) (hr1_0 : Kd.C (Kd.int .i64) w A1_0 l1_0.length l1_0) (hc1_0 : l1_0.length ≤ c1_0) (hr1_1 : Kd.C (Kd.slice 3 (Kd.int .i64)) w A1_1 l1_1.length l1_1) (hc1_1 : l1_1.length ≤ c1_1) (h : arboristref03_Semijoin.f k l0_0 l0_1 l1_0 l1_1 = some (r1, r2)) :
    Calls Tryz.prog 14 #[.agg #[.slice A0_0 l0_0.length c0_0, .slice A0_1 l0_1.length c0_1], .agg #[.slice A1_0 l1_0.length c1_0, .slice A1_1 l1_1.length c1_1]] w fun e w' => ∃ v0_ v1_ : Value, e = .returned (.agg #[v0_, v1_]) ∧ Kd.R (Kd.int .i64) 3 w' w.heap.size (fun _ => True) v0_ r1 ∧ Kd.S (Kd.slice 3 (Kd.int .i64)) 22 w' w.heap.size (fun k_ => some k_ ≠ (v0_ : Value).ownBlock) v1_ r2 ∧ Below w.heap.size w w' := by
  have hu27 := Tryz.underlying27
  have HR0_0 := Aside0.mk hr0_0
  have HC0_0 := Aside0.mk hc0_0
  clear hr0_0 hc0_0
  have HR0_1 := Aside0.mk hr0_1
  have HC0_1 := Aside0.mk hc0_1
  clear hr0_1 hc0_1
  have HR1_0 := Aside0.mk hr1_0
  have HC1_0 := Aside0.mk hc1_0
  clear hr1_0 hc1_0
  have HR1_1 := Aside0.mk hr1_1
  have HC1_1 := Aside0.mk hc1_1
  clear hr1_1 hc1_1
  have HB := Aside0.mk (Below.refl w.heap.size w)
  have H : ((arboristref01_Copy.f l0_0).bind fun t277 => (arboristref03_Semijoin.l0 k 0 l0_0 l0_1 l1_0 l1_1 t277 ([] : List (List Int)))) = some (r1, r2) := h
  clear h
  replace H := Option.bind_eq_some_iff.mp H
  obtain ⟨t277, A30, H⟩ := H
  replace H : (arboristref03_Semijoin.l0 k 0 l0_0 l0_1 l1_0 l1_1 t277 ([] : List (List Int))) = some (r1, r2) := H
  have A3 := Aside0.mk A30
  clear A30
  have H' := Aside0.mk H
  clear H
  go_enter Tryz.func14, Tryz.ntmps14
  go_wp2_with (first | ((with_reducible refine gate_dst (N := 2) rfl ?_); refine box_event ?hg (N := 2) ?hd (cs := #[.slice A0_0 l0_0.length c0_0, .slice A0_1 l0_1.length c0_1]) (t := 27) ?hr ?_; (case hd => rfl); (case hg => rfl); (case hr => first | (go_simp; done) | (go_simp; rfl)); intro gb274 hg w4 hbox hb; have n0_ := Aside0.mk (below_step (by repeat (first | (with_reducible first | exact HB.out | apply below_alloc | apply pw_below_drewN | apply below_drew1) | exact HB.out)) hb); have n1_ := Aside0.mk (hbox); have n2_ := Aside0.mk ((by rw [hg]; exact (below_size (by repeat (first | (with_reducible first | exact HB.out | apply below_alloc | apply pw_below_drewN | apply below_drew1) | exact HB.out))) : w.heap.size ≤ gb274)); have n3_ := Aside0.mk ((by rw [hg]; exact (below_size (by repeat (first | (with_reducible first | exact HB.out | apply below_alloc | apply pw_below_drewN | apply below_drew1) | exact HB.out))) : w.heap.size ≤ gb274)); clear HB; have HB := n0_; have BK274 := n1_; have GW274 := n2_; have GE274 := n3_; clear n0_ n1_ n2_ n3_; clear hb hbox hg) | ((with_reducible refine gate_dst (N := 3) rfl ?_); refine box_event ?hg (N := 3) ?hd (cs := #[.slice A1_0 l1_0.length c1_0, .slice A1_1 l1_1.length c1_1]) (t := 27) ?hr ?_; (case hd => rfl); (case hg => rfl); (case hr => first | (go_simp; done) | (go_simp; rfl)); intro gb275 hg w5 hbox hb; have n0_ := Aside0.mk (blk_below (g := gb274) (o := .cells #[.slice A0_0 l0_0.length c0_0, .slice A0_1 l0_1.length c0_1] 27 (0, 0)) (by (with_reducible repeat (first | refine blk_drewN ?_ _ | refine blk_drew ?_ | refine blk_alloc ?_ _)); exact BK274.out) hb); have n1_ := Aside0.mk (below_step (by repeat (first | (with_reducible first | exact HB.out | apply below_alloc | apply pw_below_drewN | apply below_drew1 | refine below_set ?_ GE274.out) | exact HB.out)) hb); have n2_ := Aside0.mk (hbox); have n3_ := Aside0.mk ((by rw [hg]; exact (below_size (by repeat (first | (with_reducible first | exact HB.out | apply below_alloc | apply pw_below_drewN | apply below_drew1 | refine below_set ?_ GE274.out) | exact HB.out))) : w.heap.size ≤ gb275)); have n4_ := Aside0.mk ((by rw [hg]; exact (below_size (by repeat (first | (with_reducible first | exact HB.out | apply below_alloc | apply pw_below_drewN | apply below_drew1 | refine below_set ?_ GE274.out) | exact HB.out))) : w.heap.size ≤ gb275)); have n5_ := Aside0.mk ((by rw [hg]; exact Nat.ne_of_lt (blk_lt (g := gb274) (o := .cells #[.slice A0_0 l0_0.length c0_0, .slice A0_1 l0_1.length c0_1] 27 (0, 0)) (by (with_reducible repeat (first | refine blk_drewN ?_ _ | refine blk_drew ?_ | refine blk_alloc ?_ _)); exact BK274.out)) : gb274 ≠ gb275)); have n6_ := Aside0.mk ((by rw [hg]; exact Nat.ne_of_gt (blk_lt (g := gb274) (o := .cells #[.slice A0_0 l0_0.length c0_0, .slice A0_1 l0_1.length c0_1] 27 (0, 0)) (by (with_reducible repeat (first | refine blk_drewN ?_ _ | refine blk_drew ?_ | refine blk_alloc ?_ _)); exact BK274.out)) : gb275 ≠ gb274)); clear BK274; clear HB; have BK274 := n0_; have HB := n1_; have BK275 := n2_; have GW275 := n3_; have GE275 := n4_; have NB274_275 := n5_; have NB275_274 := n6_; clear n0_ n1_ n2_ n3_ n4_ n5_ n6_; clear hb hbox hg) | ((with_reducible refine gate_dst (N := 4) rfl ?_); refine box_event ?hg (N := 4) ?hd (cs := #[.slice none 0 0, .slice none 0 0]) (t := 27) ?hr ?_; (case hd => rfl); (case hg => rfl); (case hr => first | (go_simp; done) | (go_simp; rfl)); intro gb276 hg w6 hbox hb; have n0_ := Aside0.mk (blk_below (g := gb274) (o := .cells #[.slice A0_0 l0_0.length c0_0, .slice A0_1 l0_1.length c0_1] 27 (0, 0)) (by (with_reducible repeat (first | refine blk_drewN ?_ _ | refine blk_drew ?_ | refine blk_alloc ?_ _)); exact BK274.out) hb); have n1_ := Aside0.mk (blk_below (g := gb275) (o := .cells #[.slice A1_0 l1_0.length c1_0, .slice A1_1 l1_1.length c1_1] 27 (0, 0)) (by (with_reducible repeat (first | refine blk_drewN ?_ _ | refine blk_drew ?_ | refine blk_alloc ?_ _)); exact BK275.out) hb); have n2_ := Aside0.mk (below_step (by repeat (first | (with_reducible first | exact HB.out | apply below_alloc | apply pw_below_drewN | apply below_drew1 | refine below_set ?_ GE274.out | refine below_set ?_ GE275.out) | exact HB.out)) hb); have n3_ := Aside0.mk (hbox); have n4_ := Aside0.mk ((by rw [hg]; exact (below_size (by repeat (first | (with_reducible first | exact HB.out | apply below_alloc | apply pw_below_drewN | apply below_drew1 | refine below_set ?_ GE274.out | refine below_set ?_ GE275.out) | exact HB.out))) : w.heap.size ≤ gb276)); have n5_ := Aside0.mk ((by rw [hg]; exact (below_size (by repeat (first | (with_reducible first | exact HB.out | apply below_alloc | apply pw_below_drewN | apply below_drew1 | refine below_set ?_ GE274.out | refine below_set ?_ GE275.out) | exact HB.out))) : w.heap.size ≤ gb276)); have n6_ := Aside0.mk ((by rw [hg]; exact Nat.ne_of_lt (blk_lt (g := gb274) (o := .cells #[.slice A0_0 l0_0.length c0_0, .slice A0_1 l0_1.length c0_1] 27 (0, 0)) (by (with_reducible repeat (first | refine blk_drewN ?_ _ | refine blk_drew ?_ | refine blk_alloc ?_ _)); exact BK274.out)) : gb274 ≠ gb276)); have n7_ := Aside0.mk ((by rw [hg]; exact Nat.ne_of_gt (blk_lt (g := gb274) (o := .cells #[.slice A0_0 l0_0.length c0_0, .slice A0_1 l0_1.length c0_1] 27 (0, 0)) (by (with_reducible repeat (first | refine blk_drewN ?_ _ | refine blk_drew ?_ | refine blk_alloc ?_ _)); exact BK274.out)) : gb276 ≠ gb274)); have n8_ := Aside0.mk ((by rw [hg]; exact Nat.ne_of_lt (blk_lt (g := gb275) (o := .cells #[.slice A1_0 l1_0.length c1_0, .slice A1_1 l1_1.length c1_1] 27 (0, 0)) (by (with_reducible repeat (first | refine blk_drewN ?_ _ | refine blk_drew ?_ | refine blk_alloc ?_ _)); exact BK275.out)) : gb275 ≠ gb276)); have n9_ := Aside0.mk ((by rw [hg]; exact Nat.ne_of_gt (blk_lt (g := gb275) (o := .cells #[.slice A1_0 l1_0.length c1_0, .slice A1_1 l1_1.length c1_1] 27 (0, 0)) (by (with_reducible repeat (first | refine blk_drewN ?_ _ | refine blk_drew ?_ | refine blk_alloc ?_ _)); exact BK275.out)) : gb276 ≠ gb275)); clear BK274; clear BK275; clear HB; have BK274 := n0_; have BK275 := n1_; have HB := n2_; have BK276 := n3_; have GW276 := n4_; have GE276 := n5_; have NB274_276 := n6_; have NB276_274 := n7_; have NB275_276 := n8_; have NB276_275 := n9_; clear n0_ n1_ n2_ n3_ n4_ n5_ n6_ n7_ n8_ n9_; clear hb hbox hg; have hnb7 := NB274_275.out; have hnc7 := NB275_274.out; have hnb8 := NB274_276.out; have hnc8 := NB276_274.out; have hcz9_0 : w6.cell? ⟨gb274, 0, none⟩ = some (.slice A0_0 l0_0.length c0_0) := (blk_cell BK274.out 0).trans rfl; have hcz9_1 : w6.cell? ⟨gb274, 1, none⟩ = some (.slice A0_1 l0_1.length c0_1) := (blk_cell BK274.out 1).trans rfl; have hfz9_0 := blk_frozen BK274.out 0; have hfz9_1 := blk_frozen BK274.out 1) | ((with_reducible refine gate_callee (f := 52) rfl ?_); refine goesL_ (some 11) rfl rfl Tryz.func52 (by kernel_rfl) rfl #[.slice A0_0 l0_0.length c0_0] rfl (by (try simp only [List.map_toArray, List.map_cons, List.map_nil]); first | done | rfl | (simp only [List.length_drop, List.length_take]; rfl)) ?_; (with_reducible refine (arboristref01_Copy.calls _ _ l0_0 t277 _ ?side1 ?side2 A3.out).mono ?_); (case side1 => repeat (first | exact (Kd.C_below HR0_0.out HB.out) | (with_reducible refine Kd.C_alloc ?_ _) | (with_reducible refine Kd.C_drewN ?_ _) | (with_reducible refine Kd.C_drew ?_))); (case side2 => exact HC0_0.out); rintro e w10 ⟨v278, rfl, ho0, hb⟩; refine ⟨_, rfl, ?_⟩; have n0_ := Aside0.mk (Kd.R_lower ho0 (below_size (by repeat (first | (with_reducible first | exact HB.out | apply below_alloc | apply pw_below_drewN | apply below_drew1 | refine below_set ?_ GE274.out | refine below_set ?_ GE275.out | refine below_set ?_ GE276.out) | exact HB.out)))); have n1_ := Aside0.mk (blk_below (g := gb274) (o := .cells #[.slice A0_0 l0_0.length c0_0, .slice A0_1 l0_1.length c0_1] 27 (0, 0)) (by (with_reducible repeat (first | refine blk_drewN ?_ _ | refine blk_drew ?_ | refine blk_alloc ?_ _)); exact BK274.out) hb); have n2_ := Aside0.mk (blk_below (g := gb275) (o := .cells #[.slice A1_0 l1_0.length c1_0, .slice A1_1 l1_1.length c1_1] 27 (0, 0)) (by (with_reducible repeat (first | refine blk_drewN ?_ _ | refine blk_drew ?_ | refine blk_alloc ?_ _)); exact BK275.out) hb); have n3_ := Aside0.mk (blk_below (g := gb276) (o := .cells #[.slice none 0 0, .slice none 0 0] 27 (0, 0)) (by (with_reducible repeat (first | refine blk_drewN ?_ _ | refine blk_drew ?_ | refine blk_alloc ?_ _)); exact BK276.out) hb); have n4_ := Aside0.mk (below_step (by repeat (first | (with_reducible first | exact HB.out | apply below_alloc | apply pw_below_drewN | apply below_drew1 | refine below_set ?_ GE274.out | refine below_set ?_ GE275.out | refine below_set ?_ GE276.out) | exact HB.out)) hb); clear BK274; clear BK275; clear BK276; clear HB; have HO279 := n0_; have BK274 := n1_; have BK275 := n2_; have BK276 := n3_; have HB := n4_; clear n0_ n1_ n2_ n3_ n4_; (try clear hb); (try clear hb2); (try clear hk); (try clear hi); (try clear ho0); obtain ⟨Ao11, co11, eo11⟩ := Kd.R_slice HO279.out; subst eo11) | ((with_reducible refine gate_dst (N := 5) rfl ?_); refine box_event ?hg (N := 5) ?hd (cs := #[.slice none 0 0, .slice none 0 0]) (t := 27) ?hr ?_; (case hd => rfl); (case hg => rfl); (case hr => first | (go_simp; done) | (go_simp; rfl)); intro gb280 hg w12 hbox hb; have n0_ := Aside0.mk (Kd.R_below (by (with_reducible repeat (first | apply Kd.R_alloc | apply Kd.R_drewN | apply Kd.R_drew)); exact HO279.out) hb); have n1_ := Aside0.mk (blk_below (g := gb274) (o := .cells #[.slice A0_0 l0_0.length c0_0, .slice A0_1 l0_1.length c0_1] 27 (0, 0)) (by (with_reducible repeat (first | refine blk_drewN ?_ _ | refine blk_drew ?_ | refine blk_alloc ?_ _)); exact BK274.out) hb); have n2_ := Aside0.mk (blk_below (g := gb275) (o := .cells #[.slice A1_0 l1_0.length c1_0, .slice A1_1 l1_1.length c1_1] 27 (0, 0)) (by (with_reducible repeat (first | refine blk_drewN ?_ _ | refine blk_drew ?_ | refine blk_alloc ?_ _)); exact BK275.out) hb); have n3_ := Aside0.mk (blk_below (g := gb276) (o := .cells #[.slice none 0 0, .slice none 0 0] 27 (0, 0)) (by (with_reducible repeat (first | refine blk_drewN ?_ _ | refine blk_drew ?_ | refine blk_alloc ?_ _)); exact BK276.out) hb); have n4_ := Aside0.mk (below_step (by repeat (first | (with_reducible first | exact HB.out | apply below_alloc | apply pw_below_drewN | apply below_drew1 | refine below_set ?_ GE274.out | refine below_set ?_ GE275.out | refine below_set ?_ GE276.out) | exact HB.out)) hb); have n5_ := Aside0.mk (hbox); have n6_ := Aside0.mk ((by rw [hg]; exact (below_size (by repeat (first | (with_reducible first | exact HB.out | apply below_alloc | apply pw_below_drewN | apply below_drew1 | refine below_set ?_ GE274.out | refine below_set ?_ GE275.out | refine below_set ?_ GE276.out) | exact HB.out))) : w.heap.size ≤ gb280)); have n7_ := Aside0.mk ((by rw [hg]; exact (below_size (by repeat (first | (with_reducible first | exact HB.out | apply below_alloc | apply pw_below_drewN | apply below_drew1 | refine below_set ?_ GE274.out | refine below_set ?_ GE275.out | refine below_set ?_ GE276.out) | exact HB.out))) : w.heap.size ≤ gb280)); have n8_ := Aside0.mk ((by rw [hg]; exact Nat.ne_of_lt (blk_lt (g := gb274) (o := .cells #[.slice A0_0 l0_0.length c0_0, .slice A0_1 l0_1.length c0_1] 27 (0, 0)) (by (with_reducible repeat (first | refine blk_drewN ?_ _ | refine blk_drew ?_ | refine blk_alloc ?_ _)); exact BK274.out)) : gb274 ≠ gb280)); have n9_ := Aside0.mk ((by rw [hg]; exact Nat.ne_of_gt (blk_lt (g := gb274) (o := .cells #[.slice A0_0 l0_0.length c0_0, .slice A0_1 l0_1.length c0_1] 27 (0, 0)) (by (with_reducible repeat (first | refine blk_drewN ?_ _ | refine blk_drew ?_ | refine blk_alloc ?_ _)); exact BK274.out)) : gb280 ≠ gb274)); have n10_ := Aside0.mk ((by rw [hg]; exact Nat.ne_of_lt (blk_lt (g := gb275) (o := .cells #[.slice A1_0 l1_0.length c1_0, .slice A1_1 l1_1.length c1_1] 27 (0, 0)) (by (with_reducible repeat (first | refine blk_drewN ?_ _ | refine blk_drew ?_ | refine blk_alloc ?_ _)); exact BK275.out)) : gb275 ≠ gb280)); have n11_ := Aside0.mk ((by rw [hg]; exact Nat.ne_of_gt (blk_lt (g := gb275) (o := .cells #[.slice A1_0 l1_0.length c1_0, .slice A1_1 l1_1.length c1_1] 27 (0, 0)) (by (with_reducible repeat (first | refine blk_drewN ?_ _ | refine blk_drew ?_ | refine blk_alloc ?_ _)); exact BK275.out)) : gb280 ≠ gb275)); have n12_ := Aside0.mk ((by rw [hg]; exact Nat.ne_of_lt (blk_lt (g := gb276) (o := .cells #[.slice none 0 0, .slice none 0 0] 27 (0, 0)) (by (with_reducible repeat (first | refine blk_drewN ?_ _ | refine blk_drew ?_ | refine blk_alloc ?_ _)); exact BK276.out)) : gb276 ≠ gb280)); have n13_ := Aside0.mk ((by rw [hg]; exact Nat.ne_of_gt (blk_lt (g := gb276) (o := .cells #[.slice none 0 0, .slice none 0 0] 27 (0, 0)) (by (with_reducible repeat (first | refine blk_drewN ?_ _ | refine blk_drew ?_ | refine blk_alloc ?_ _)); exact BK276.out)) : gb280 ≠ gb276)); clear HO279; clear BK274; clear BK275; clear BK276; clear HB; have HO279 := n0_; have BK274 := n1_; have BK275 := n2_; have BK276 := n3_; have HB := n4_; have BK280 := n5_; have GW280 := n6_; have GE280 := n7_; have NB274_280 := n8_; have NB280_274 := n9_; have NB275_280 := n10_; have NB280_275 := n11_; have NB276_280 := n12_; have NB280_276 := n13_; clear n0_ n1_ n2_ n3_ n4_ n5_ n6_ n7_ n8_ n9_ n10_ n11_ n12_ n13_; clear hb hbox hg; have hnb13 := NB280_274.out; have hnc13 := NB274_280.out; have hnb14 := NB280_275.out; have hnc14 := NB275_280.out; have hnb15 := NB280_276.out; have hnc15 := NB276_280.out; have hcz16_0 : w12.cell? ⟨gb280, 0, none⟩ = some (.slice none 0 0) := (blk_cell BK280.out 0).trans rfl; have hcz16_1 : w12.cell? ⟨gb280, 1, none⟩ = some (.slice none 0 0) := (blk_cell BK280.out 1).trans rfl; have hfz16_0 := blk_frozen BK280.out 0; have hfz16_1 := blk_frozen BK280.out 1))
  go_loopg [6] k (fun kq v6 w' => ∃ (x6_1 : Int) (x281001_1 : List (List Int)) (u281001 : Value), v6 = .int .i64 x6_1 ∧ Aside0 (arboristref03_Semijoin.l0 kq x6_1 l0_0 l0_1 l1_0 l1_1 t277 x281001_1 = some (r1, r2)) ∧ Aside0 (kq ≤ k) ∧ Aside0 (Kd.R (Kd.int .i64) 3 w' w.heap.size (fun _ => True) (.slice Ao11 t277.length co11) t277) ∧ Aside0 (Kd.S (Kd.slice 3 (Kd.int .i64)) 22 w' w.heap.size (fun k_ => some k_ ≠ ((.slice Ao11 t277.length co11) : Value).ownBlock) u281001 x281001_1) ∧ Aside0 (w'.heap[gb274]? = some (.cells #[(.slice A0_0 l0_0.length c0_0), (.slice A0_1 l0_1.length c0_1)] 27 (0, 0))) ∧ Aside0 (w'.heap[gb275]? = some (.cells #[(.slice A1_0 l1_0.length c1_0), (.slice A1_1 l1_1.length c1_1)] 27 (0, 0))) ∧ Aside0 (w'.heap[gb276]? = some (.cells #[(.slice none 0 0), (.slice none 0 0)] 27 (0, 0))) ∧ Aside0 (w'.heap[gb280]? = some (.cells #[(.slice Ao11 t277.length co11), u281001] 27 (0, 0))) ∧ Aside0 (Below w.heap.size w w'))
  case atStart => exact ⟨(0), (([] : List (List Int))), (.slice none 0 0), (by first | rfl | (simp; done) | (simp [*]; done)), H', ⟨Nat.le_refl _⟩, ⟨by (with_reducible repeat (first | apply Kd.R_alloc | apply Kd.R_drewN | apply Kd.R_drew)); exact Kd.R_mono (Kd.R_far (p := ⟨gb280, 1, none⟩) (Kd.R_far (p := ⟨gb280, 0, none⟩) (Kd.R_types HO279.out BK280.out (by decide)) (fun _ hk => hk.2) (.slice Ao11 t277.length co11)) (fun _ hk => hk.2) (.slice none 0 0)) (fun _ hk => trivial)⟩, ⟨by first | exact Kd.S_nil _ _ _ _ _ | exact Kd.N_nil _ _ _ _ _ | exact Kd.V_nil _ _ _ _ _ | exact Kd.Q_nil _ _ _ _ _ | exact Kd.R_nil _ _ _ _ _⟩, ⟨by (with_reducible repeat (first | refine blk_drewN ?_ _ | refine blk_drew ?_ | refine blk_alloc ?_ _)); refine blk_far ?_ NB274_280.out _; (with_reducible repeat (first | refine blk_drewN ?_ _ | refine blk_drew ?_ | refine blk_alloc ?_ _)); refine blk_far ?_ NB274_280.out _; (with_reducible repeat (first | refine blk_drewN ?_ _ | refine blk_drew ?_ | refine blk_alloc ?_ _)); exact BK274.out⟩, ⟨by (with_reducible repeat (first | refine blk_drewN ?_ _ | refine blk_drew ?_ | refine blk_alloc ?_ _)); refine blk_far ?_ NB275_280.out _; (with_reducible repeat (first | refine blk_drewN ?_ _ | refine blk_drew ?_ | refine blk_alloc ?_ _)); refine blk_far ?_ NB275_280.out _; (with_reducible repeat (first | refine blk_drewN ?_ _ | refine blk_drew ?_ | refine blk_alloc ?_ _)); exact BK275.out⟩, ⟨by (with_reducible repeat (first | refine blk_drewN ?_ _ | refine blk_drew ?_ | refine blk_alloc ?_ _)); refine blk_far ?_ NB276_280.out _; (with_reducible repeat (first | refine blk_drewN ?_ _ | refine blk_drew ?_ | refine blk_alloc ?_ _)); refine blk_far ?_ NB276_280.out _; (with_reducible repeat (first | refine blk_drewN ?_ _ | refine blk_drew ?_ | refine blk_alloc ?_ _)); exact BK276.out⟩, ⟨by (with_reducible repeat (first | refine blk_drewN ?_ _ | refine blk_drew ?_ | refine blk_alloc ?_ _)); refine blk_put (cs := #[.slice Ao11 t277.length co11, .slice none 0 0]) ?_ 1 _ rfl; (with_reducible repeat (first | refine blk_drewN ?_ _ | refine blk_drew ?_ | refine blk_alloc ?_ _)); refine blk_put (cs := #[.slice none 0 0, .slice none 0 0]) ?_ 0 _ rfl; (with_reducible repeat (first | refine blk_drewN ?_ _ | refine blk_drew ?_ | refine blk_alloc ?_ _)); exact BK280.out⟩, ⟨by repeat (first | (with_reducible first | exact HB.out | apply below_alloc | apply pw_below_drewN | apply below_drew1 | refine below_set ?_ GE274.out | refine below_set ?_ GE275.out | refine below_set ?_ GE276.out | refine below_set ?_ GE280.out) | exact HB.out)⟩⟩
  case round =>
    clear H'
    try clear c1
    try clear p2
    try clear c5
    try clear c7
    try clear c8
    try clear c13
    try clear c14
    try clear c15
    try clear hcz16_0
    try clear hcz16_1
    try clear hcz9_0
    try clear hcz9_1
    try clear hfz16_0
    try clear hfz16_1
    try clear hfz9_0
    try clear hfz9_1
    obtain ⟨x6_1, x281001_1, u281001, rfl, HA, HK1, HO_281000, HO_281001, BK274, BK275, BK276, BK280, HB⟩ := hrel
    cases gk with
    | zero => exact absurd HA.out (by simp [arboristref03_Semijoin.l0])
    | succ k1 =>
      have H := HA.out
      clear HA
      simp only [arboristref03_Semijoin.l0] at H
      by_cases c17 : x6_1 < (l0_1.length : Int)
      · rw [if_pos c17] at H
        have c17b0 : decide (x6_1 < (l0_1.length : Int)) = true := decide_eq_true c17
        clear c17
        have H' := Aside0.mk H
        clear H
        have hnb18 := NB274_275.out
        have hnc18 := NB275_274.out
        have hnb19 := NB274_276.out
        have hnc19 := NB276_274.out
        have hnb20 := NB274_280.out
        have hnc20 := NB280_274.out
        have hcz21_0 : wr.cell? ⟨gb274, 0, none⟩ = some (.slice A0_0 l0_0.length c0_0) := (blk_cell BK274.out 0).trans rfl
        have hcz21_1 : wr.cell? ⟨gb274, 1, none⟩ = some (.slice A0_1 l0_1.length c0_1) := (blk_cell BK274.out 1).trans rfl
        have hfz21_0 := blk_frozen BK274.out 0
        have hfz21_1 := blk_frozen BK274.out 1
        go_wp2
        go_loopg [7, 8] k1 (fun kq v7 v8 w' => ∃ (x7_2 : Bool) (x8_2 : Int), v7 = .bool x7_2 ∧ v8 = .int .i64 x8_2 ∧ Aside0 (arboristref03_Semijoin.l1 kq x6_1 x7_2 x8_2 l0_0 l0_1 l1_0 l1_1 t277 x281001_1 = some (r1, r2)) ∧ Aside0 (kq ≤ k1) ∧ Aside0 (Kd.R (Kd.int .i64) 3 w' w.heap.size (fun _ => True) (.slice Ao11 t277.length co11) t277) ∧ Aside0 (Kd.S (Kd.slice 3 (Kd.int .i64)) 22 w' w.heap.size (fun k_ => some k_ ≠ ((.slice Ao11 t277.length co11) : Value).ownBlock) u281001 x281001_1) ∧ Aside0 (w'.heap[gb274]? = some (.cells #[(.slice A0_0 l0_0.length c0_0), (.slice A0_1 l0_1.length c0_1)] 27 (0, 0))) ∧ Aside0 (w'.heap[gb275]? = some (.cells #[(.slice A1_0 l1_0.length c1_0), (.slice A1_1 l1_1.length c1_1)] 27 (0, 0))) ∧ Aside0 (w'.heap[gb276]? = some (.cells #[(.slice none 0 0), (.slice none 0 0)] 27 (0, 0))) ∧ Aside0 (w'.heap[gb280]? = some (.cells #[(.slice Ao11 t277.length co11), u281001] 27 (0, 0))) ∧ Aside0 (Below w.heap.size w w'))
        case atStart => exact ⟨(false), (0), (by first | rfl | (simp; done) | (simp [*]; done)), (by first | rfl | (simp; done) | (simp [*]; done)), H', ⟨Nat.le_refl _⟩, ⟨by (with_reducible repeat (first | apply Kd.R_alloc | apply Kd.R_drewN | apply Kd.R_drew)); exact HO_281000.out⟩, ⟨by (with_reducible repeat (first | apply Kd.S_alloc | apply Kd.S_drewN | apply Kd.S_drew)); exact HO_281001.out⟩, ⟨by (with_reducible repeat (first | refine blk_drewN ?_ _ | refine blk_drew ?_ | refine blk_alloc ?_ _)); exact BK274.out⟩, ⟨by (with_reducible repeat (first | refine blk_drewN ?_ _ | refine blk_drew ?_ | refine blk_alloc ?_ _)); exact BK275.out⟩, ⟨by (with_reducible repeat (first | refine blk_drewN ?_ _ | refine blk_drew ?_ | refine blk_alloc ?_ _)); exact BK276.out⟩, ⟨by (with_reducible repeat (first | refine blk_drewN ?_ _ | refine blk_drew ?_ | refine blk_alloc ?_ _)); exact BK280.out⟩, ⟨by repeat (first | (with_reducible first | exact HB.out | apply below_alloc | apply pw_below_drewN | apply below_drew1 | refine below_set ?_ GE274.out | refine below_set ?_ GE275.out | refine below_set ?_ GE276.out | refine below_set ?_ GE280.out) | exact HB.out)⟩⟩
        case round =>
          clear H'
          try clear c1
          try clear c2
          try clear p2
          try clear c5
          try clear c7
          try clear c8
          try clear c13
          try clear c14
          try clear c15
          try clear c17
          try clear c17b0
          try clear c18
          try clear c19
          try clear c20
          try clear hcz16_0
          try clear hcz16_1
          try clear hcz21_0
          try clear hcz21_1
          try clear hcz9_0
          try clear hcz9_1
          try clear hfz16_0
          try clear hfz16_1
          try clear hfz21_0
          try clear hfz21_1
          try clear hfz9_0
          try clear hfz9_1
          try clear p2
          obtain ⟨x7_2, x8_2, rfl, rfl, HA, HK2, HO_281000, HO_281001, BK274, BK275, BK276, BK280, HB⟩ := hrel
          cases gk with
          | zero => exact absurd HA.out (by simp [arboristref03_Semijoin.l1])
          | succ k2 =>
            have H := HA.out
            clear HA
            simp only [arboristref03_Semijoin.l1] at H
            by_cases c22 : x8_2 < (l1_1.length : Int)
            · rw [if_pos c22] at H
              have c22b0 : decide (x8_2 < (l1_1.length : Int)) = true := decide_eq_true c22
              clear c22
              by_cases c23 : x7_2 = true
              · subst c23
                have H1 : (arboristref03_Semijoin.l1 k2 x6_1 true (wrap64 (x8_2 + 1)) l0_0 l0_1 l1_0 l1_1 t277 x281001_1) = some (r1, r2) := by rw [if_pos rfl] at H; exact H
                clear H
                have H := H1
                clear H1
                have H' := Aside0.mk H
                clear H
                have hnb24 := NB275_274.out
                have hnc24 := NB274_275.out
                have hnb25 := NB275_276.out
                have hnc25 := NB276_275.out
                have hnb26 := NB275_280.out
                have hnc26 := NB280_275.out
                have hcz27_0 : wr.cell? ⟨gb275, 0, none⟩ = some (.slice A1_0 l1_0.length c1_0) := (blk_cell BK275.out 0).trans rfl
                have hcz27_1 : wr.cell? ⟨gb275, 1, none⟩ = some (.slice A1_1 l1_1.length c1_1) := (blk_cell BK275.out 1).trans rfl
                have hfz27_0 := blk_frozen BK275.out 0
                have hfz27_1 := blk_frozen BK275.out 1
                try go_wp2
                have n0_ := Aside0.mk (Kd.R_drew HO_281000.out)
                have n1_ := Aside0.mk (Kd.S_drew HO_281001.out)
                have n2_ := Aside0.mk (blk_drew BK274.out)
                have n3_ := Aside0.mk (blk_drew BK275.out)
                have n4_ := Aside0.mk (blk_drew BK276.out)
                have n5_ := Aside0.mk (blk_drew BK280.out)
                have n6_ := Aside0.mk (below_drew1 HB.out)
                clear HO_281000
                clear HO_281001
                clear BK274
                clear BK275
                clear BK276
                clear BK280
                clear HB
                have HO_281000 := n0_
                have HO_281001 := n1_
                have BK274 := n2_
                have BK275 := n3_
                have BK276 := n4_
                have BK280 := n5_
                have HB := n6_
                clear n0_ n1_ n2_ n3_ n4_ n5_ n6_
                refine start_ (n := 19) (S := fun w' => True) (ds := []) #[false, false, false, false, false, false, false, false, false, false, false, false, false, false, false, false, false, false, false] (by kernel_rfl) rfl rfl trivial (fun hHeld => ?_); refine with_tabW arboristref03_Semijoin.tab9 arboristref03_Semijoin.bits9 (fun HT_ HW_ => ?_)
                generalize wr.drew = w28 at HO_281000 HO_281001 BK274 BK275 BK276 BK280 HB hHeld ⊢
                refine pure_ (i := 0) (N := some 27) (v := ?_) (a' := ?_) #[true, false, false, false, false, false, false, false, false, false, false, false, false, false, false, false, false, false, false] rfl rfl (any_of HT_.out (by kernel_rfl)) (fun _ _ _ h => h) (Or.inl ⟨by rfl, ?_⟩) ?_ ?_
                rotate_left
                · intro w'
                  go_simp
                  with_reducible rfl
                rotate_left
                · simp only [Act.put, List.setIfInBounds_toArray, List.set_cons_zero, List.set_cons_succ, i64_w, i32_w]
                  rfl
                refine pure_ (i := 1) (N := some 28) (v := ?_) (a' := ?_) #[true, true, false, false, false, false, false, false, false, false, false, false, false, false, false, false, false, false, false] rfl rfl (any_of HT_.out (by kernel_rfl)) (fun _ _ _ h => h) (Or.inl ⟨by rfl, ?_⟩) ?_ ?_
                rotate_left
                · intro w'
                  go_simp
                  with_reducible rfl
                rotate_left
                · simp only [Act.put, List.setIfInBounds_toArray, List.set_cons_zero, List.set_cons_succ, i64_w, i32_w]
                  rfl
                refine pure_ (i := 2) (N := some 29) (v := undef) (a' := ?_) #[true, true, true, false, false, false, false, false, false, false, false, false, false, false, false, false, false, false, false] rfl rfl (any_of HT_.out (by kernel_rfl)) (fun _ _ _ h => h) (Or.inr ⟨by rfl, rfl⟩) ?_ ?_
                rotate_left
                · simp only [Act.put, List.setIfInBounds_toArray, List.set_cons_zero, List.set_cons_succ, i64_w, i32_w]
                  rfl
                refine pure_ (i := 3) (N := some 30) (v := undef) (a' := ?_) #[true, true, true, true, false, false, false, false, false, false, false, false, false, false, false, false, false, false, false] rfl rfl (any_of HT_.out (by kernel_rfl)) (fun _ _ _ h => h) (Or.inr ⟨by rfl, rfl⟩) ?_ ?_
                rotate_left
                · simp only [Act.put, List.setIfInBounds_toArray, List.set_cons_zero, List.set_cons_succ, i64_w, i32_w]
                  rfl
                refine pure_ (i := 4) (N := some 31) (v := undef) (a' := ?_) #[true, true, true, true, true, false, false, false, false, false, false, false, false, false, false, false, false, false, false] rfl rfl (any_of HT_.out (by kernel_rfl)) (fun _ _ _ h => h) (Or.inr ⟨by rfl, rfl⟩) ?_ ?_
                rotate_left
                · simp only [Act.put, List.setIfInBounds_toArray, List.set_cons_zero, List.set_cons_succ, i64_w, i32_w]
                  rfl
                refine pure_ (i := 5) (N := some 32) (v := undef) (a' := ?_) #[true, true, true, true, true, true, false, false, false, false, false, false, false, false, false, false, false, false, false] rfl rfl (any_of HT_.out (by kernel_rfl)) (fun _ _ _ h => h) (Or.inr ⟨by rfl, rfl⟩) ?_ ?_
                rotate_left
                · simp only [Act.put, List.setIfInBounds_toArray, List.set_cons_zero, List.set_cons_succ, i64_w, i32_w]
                  rfl
                refine pure_ (i := 6) (N := some 33) (v := undef) (a' := ?_) #[true, true, true, true, true, true, true, false, false, false, false, false, false, false, false, false, false, false, false] rfl rfl (any_of HT_.out (by kernel_rfl)) (fun _ _ _ h => h) (Or.inr ⟨by rfl, rfl⟩) ?_ ?_
                rotate_left
                · simp only [Act.put, List.setIfInBounds_toArray, List.set_cons_zero, List.set_cons_succ, i64_w, i32_w]
                  rfl
                refine pure_ (i := 7) (N := some 34) (v := undef) (a' := ?_) #[true, true, true, true, true, true, true, true, false, false, false, false, false, false, false, false, false, false, false] rfl rfl (any_of HT_.out (by kernel_rfl)) (fun _ _ _ h => h) (Or.inr ⟨by rfl, rfl⟩) ?_ ?_
                rotate_left
                · simp only [Act.put, List.setIfInBounds_toArray, List.set_cons_zero, List.set_cons_succ, i64_w, i32_w]
                  rfl
                refine pure_ (i := 8) (N := some 35) (v := undef) (a' := ?_) #[true, true, true, true, true, true, true, true, true, false, false, false, false, false, false, false, false, false, false] rfl rfl (any_of HT_.out (by kernel_rfl)) (fun _ _ _ h => h) (Or.inr ⟨by rfl, rfl⟩) ?_ ?_
                rotate_left
                · simp only [Act.put, List.setIfInBounds_toArray, List.set_cons_zero, List.set_cons_succ, i64_w, i32_w]
                  rfl
                refine pure_ (i := 9) (N := some 36) (v := undef) (a' := ?_) #[true, true, true, true, true, true, true, true, true, true, false, false, false, false, false, false, false, false, false] rfl rfl (any_of HT_.out (by kernel_rfl)) (fun _ _ _ h => h) (Or.inr ⟨by rfl, rfl⟩) ?_ ?_
                rotate_left
                · simp only [Act.put, List.setIfInBounds_toArray, List.set_cons_zero, List.set_cons_succ, i64_w, i32_w]
                  rfl
                refine pure_ (i := 10) (N := some 37) (v := undef) (a' := ?_) #[true, true, true, true, true, true, true, true, true, true, true, false, false, false, false, false, false, false, false] rfl rfl (any_of HT_.out (by kernel_rfl)) (fun _ _ _ h => h) (Or.inr ⟨by rfl, rfl⟩) ?_ ?_
                rotate_left
                · simp only [Act.put, List.setIfInBounds_toArray, List.set_cons_zero, List.set_cons_succ, i64_w, i32_w]
                  rfl
                refine pure_ (i := 11) (N := some 38) (v := undef) (a' := ?_) #[true, true, true, true, true, true, true, true, true, true, true, true, false, false, false, false, false, false, false] rfl rfl (any_of HT_.out (by kernel_rfl)) (fun _ _ _ h => h) (Or.inr ⟨by rfl, rfl⟩) ?_ ?_
                rotate_left
                · simp only [Act.put, List.setIfInBounds_toArray, List.set_cons_zero, List.set_cons_succ, i64_w, i32_w]
                  rfl
                refine pure_ (i := 12) (N := some 39) (v := undef) (a' := ?_) #[true, true, true, true, true, true, true, true, true, true, true, true, true, false, false, false, false, false, false] rfl rfl (any_of HT_.out (by kernel_rfl)) (fun _ _ _ h => h) (Or.inr ⟨by rfl, rfl⟩) ?_ ?_
                rotate_left
                · simp only [Act.put, List.setIfInBounds_toArray, List.set_cons_zero, List.set_cons_succ, i64_w, i32_w]
                  rfl
                refine pure_ (i := 13) (N := some 40) (v := undef) (a' := ?_) #[true, true, true, true, true, true, true, true, true, true, true, true, true, true, false, false, false, false, false] rfl rfl (any_of HT_.out (by kernel_rfl)) (fun _ _ _ h => h) (Or.inr ⟨by rfl, rfl⟩) ?_ ?_
                rotate_left
                · simp only [Act.put, List.setIfInBounds_toArray, List.set_cons_zero, List.set_cons_succ, i64_w, i32_w]
                  rfl
                refine pure_ (i := 14) (N := some 41) (v := undef) (a' := ?_) #[true, true, true, true, true, true, true, true, true, true, true, true, true, true, true, false, false, false, false] rfl rfl (any_of HT_.out (by kernel_rfl)) (fun _ _ _ h => h) (Or.inr ⟨by rfl, rfl⟩) ?_ ?_
                rotate_left
                · simp only [Act.put, List.setIfInBounds_toArray, List.set_cons_zero, List.set_cons_succ, i64_w, i32_w]
                  rfl
                refine pure_ (i := 15) (N := some 42) (v := undef) (a' := ?_) #[true, true, true, true, true, true, true, true, true, true, true, true, true, true, true, true, false, false, false] rfl rfl (any_of HT_.out (by kernel_rfl)) (fun _ _ _ h => h) (Or.inr ⟨by rfl, rfl⟩) ?_ ?_
                rotate_left
                · simp only [Act.put, List.setIfInBounds_toArray, List.set_cons_zero, List.set_cons_succ, i64_w, i32_w]
                  rfl
                refine pure_ (i := 16) (N := some 43) (v := undef) (a' := ?_) #[true, true, true, true, true, true, true, true, true, true, true, true, true, true, true, true, true, false, false] rfl rfl (any_of HT_.out (by kernel_rfl)) (fun _ _ _ h => h) (Or.inr ⟨by rfl, rfl⟩) ?_ ?_
                rotate_left
                · simp only [Act.put, List.setIfInBounds_toArray, List.set_cons_zero, List.set_cons_succ, i64_w, i32_w]
                  rfl
                refine pure_ (i := 17) (N := some 44) (v := ?_) (a' := ?_) #[true, true, true, true, true, true, true, true, true, true, true, true, true, true, true, true, true, true, false] rfl rfl (any_of HT_.out (by kernel_rfl)) (fun _ _ _ h => h) (Or.inl ⟨by rfl, ?_⟩) ?_ ?_
                rotate_left
                · intro w'
                  go_simp
                  with_reducible rfl
                rotate_left
                · simp only [Act.put, List.setIfInBounds_toArray, List.set_cons_zero, List.set_cons_succ, i64_w, i32_w]
                  rfl
                refine pure_ (i := 18) (N := some 7) (v := ?_) (a' := ?_) #[true, true, true, true, true, true, true, true, true, true, true, true, true, true, true, true, true, true, true] rfl rfl (any_of HT_.out (by kernel_rfl)) (fun _ _ _ h => h) (Or.inl ⟨by rfl, ?_⟩) ?_ ?_
                rotate_left
                · intro w'
                  go_simp
                  with_reducible rfl
                rotate_left
                · simp only [Act.put, List.setIfInBounds_toArray, List.set_cons_zero, List.set_cons_succ, i64_w, i32_w]
                  rfl
                refine done_ (done_of HT_.out (by kernel_rfl)) ?_
                try go_wp2
                go_roundg k2
                case measure => have := HK1.out; have := HK2.out; omega
                case rel => exact ⟨(true), (wrap64 (x8_2 + 1)), (by first | rfl | (simp; done) | (simp [*]; done)), (by first | rfl | (simp; done) | (simp [*]; done)), H', ⟨by have := HK1.out; have := HK2.out; omega⟩, ⟨by (with_reducible repeat (first | apply Kd.R_alloc | apply Kd.R_drewN | apply Kd.R_drew)); exact HO_281000.out⟩, ⟨by (with_reducible repeat (first | apply Kd.S_alloc | apply Kd.S_drewN | apply Kd.S_drew)); exact HO_281001.out⟩, ⟨by (with_reducible repeat (first | refine blk_drewN ?_ _ | refine blk_drew ?_ | refine blk_alloc ?_ _)); exact BK274.out⟩, ⟨by (with_reducible repeat (first | refine blk_drewN ?_ _ | refine blk_drew ?_ | refine blk_alloc ?_ _)); exact BK275.out⟩, ⟨by (with_reducible repeat (first | refine blk_drewN ?_ _ | refine blk_drew ?_ | refine blk_alloc ?_ _)); exact BK276.out⟩, ⟨by (with_reducible repeat (first | refine blk_drewN ?_ _ | refine blk_drew ?_ | refine blk_alloc ?_ _)); exact BK280.out⟩, ⟨by repeat (first | (with_reducible first | exact HB.out | apply below_alloc | apply pw_below_drewN | apply below_drew1 | refine below_set ?_ GE274.out | refine below_set ?_ GE275.out | refine below_set ?_ GE276.out | refine below_set ?_ GE280.out) | exact HB.out)⟩⟩
              · replace c23 := Bool.eq_false_iff.mpr c23
                subst c23
                have H1 : (if 0 ≤ x6_1 then (if x6_1 < (l0_1.length : Int) then (if 0 ≤ x8_2 then ((arboristref03_Fit.f k2 l0_0 (rd_L1 l0_1 x6_1) l1_0 (rd_L1 l1_1 x8_2)).bind fun t283 => (arboristref03_Semijoin.l1 k2 x6_1 t283 (wrap64 (x8_2 + 1)) l0_0 l0_1 l1_0 l1_1 t277 x281001_1)) else (none)) else (none)) else (none)) = some (r1, r2) := by rw [if_neg (show ¬ (false = true) by decide)] at H; exact H
                clear H
                have H := H1
                clear H1
                by_cases c29 : 0 ≤ x6_1
                · rw [if_pos c29] at H
                  have c29b0 : decide (0 ≤ x6_1) = true := decide_eq_true c29
                  clear c29
                  by_cases c30 : x6_1 < (l0_1.length : Int)
                  · rw [if_pos c30] at H
                    have c30b0 : decide (x6_1 < (l0_1.length : Int)) = true := decide_eq_true c30
                    clear c30
                    by_cases c31 : 0 ≤ x8_2
                    · rw [if_pos c31] at H
                      have c31b0 : decide (0 ≤ x8_2) = true := decide_eq_true c31
                      clear c31
                      replace H := Option.bind_eq_some_iff.mp H
                      obtain ⟨t283, A320, H⟩ := H
                      replace H : (arboristref03_Semijoin.l1 k2 x6_1 t283 (wrap64 (x8_2 + 1)) l0_0 l0_1 l1_0 l1_1 t277 x281001_1) = some (r1, r2) := H
                      have A32 := Aside0.mk A320
                      clear A320
                      have H' := Aside0.mk H
                      clear H
                      have hnb33 := NB275_274.out
                      have hnc33 := NB274_275.out
                      have hnb34 := NB275_276.out
                      have hnc34 := NB276_275.out
                      have hnb35 := NB275_280.out
                      have hnc35 := NB280_275.out
                      have hcz36_0 : wr.cell? ⟨gb275, 0, none⟩ = some (.slice A1_0 l1_0.length c1_0) := (blk_cell BK275.out 0).trans rfl
                      have hcz36_1 : wr.cell? ⟨gb275, 1, none⟩ = some (.slice A1_1 l1_1.length c1_1) := (blk_cell BK275.out 1).trans rfl
                      have hfz36_0 := blk_frozen BK275.out 0
                      have hfz36_1 := blk_frozen BK275.out 1
                      try go_wp2
                      have n0_ := Aside0.mk (Kd.R_drew HO_281000.out)
                      have n1_ := Aside0.mk (Kd.S_drew HO_281001.out)
                      have n2_ := Aside0.mk (blk_drew BK274.out)
                      have n3_ := Aside0.mk (blk_drew BK275.out)
                      have n4_ := Aside0.mk (blk_drew BK276.out)
                      have n5_ := Aside0.mk (blk_drew BK280.out)
                      have n6_ := Aside0.mk (below_drew1 HB.out)
                      clear HO_281000
                      clear HO_281001
                      clear BK274
                      clear BK275
                      clear BK276
                      clear BK280
                      clear HB
                      have HO_281000 := n0_
                      have HO_281001 := n1_
                      have BK274 := n2_
                      have BK275 := n3_
                      have BK276 := n4_
                      have BK280 := n5_
                      have HB := n6_
                      clear n0_ n1_ n2_ n3_ n4_ n5_ n6_
                      have p281 : 0 ≤ (x6_1 : Int) := of_decide_eq_true (by first | (with_reducible assumption) | assumption)
                      have q281 : x6_1 < (l0_1.length : Int) := of_decide_eq_true (by first | (with_reducible assumption) | assumption)
                      obtain ⟨ad281, A281_0, c281_0, e281, hx281_0, hl281_0, hi281_0⟩ := at_L1 HR0_1.out x6_1 p281 q281
                      have hw281_0 := hx281_0
                      cases e281
                      replace hx281_0 := (HB.out.cell (World.block_lt_of_cell? w _ hx281_0)).trans hx281_0
                      have HR281_0 := Aside0.mk hi281_0
                      have HC281_0 := Aside0.mk hl281_0
                      clear hi281_0 hl281_0
                      replace p281 := eq_true p281
                      replace q281 := eq_true q281
                      have p282 : 0 ≤ (x8_2 : Int) := of_decide_eq_true (by first | (with_reducible assumption) | assumption)
                      have q282 : x8_2 < (l1_1.length : Int) := of_decide_eq_true (by first | (with_reducible assumption) | assumption)
                      obtain ⟨ad282, A282_0, c282_0, e282, hx282_0, hl282_0, hi282_0⟩ := at_L1 HR1_1.out x8_2 p282 q282
                      have hw282_0 := hx282_0
                      cases e282
                      replace hx282_0 := (HB.out.cell (World.block_lt_of_cell? w _ hx282_0)).trans hx282_0
                      have HR282_0 := Aside0.mk hi282_0
                      have HC282_0 := Aside0.mk hl282_0
                      clear hi282_0 hl282_0
                      replace p282 := eq_true p282
                      replace q282 := eq_true q282
                      refine start_ (n := 19) (S := fun w' => w'.cell? ⟨gb274, 0, none⟩ = some (.slice A0_0 l0_0.length c0_0) ∧ w'.cell? ⟨gb274, 1, none⟩ = some (.slice (some ad281) l0_1.length c0_1) ∧ w'.cell? ⟨gb275, 0, none⟩ = some (.slice A1_0 l1_0.length c1_0) ∧ w'.cell? ⟨gb275, 1, none⟩ = some (.slice (some ad282) l1_1.length c1_1) ∧ w'.cell? (ad281.add (x6_1).toNat) = some (.slice A281_0 (rd_L1 l0_1 x6_1).length c281_0) ∧ w'.cell? (ad282.add (x8_2).toNat) = some (.slice A282_0 (rd_L1 l1_1 x8_2).length c282_0)) (ds := []) #[false, false, false, false, false, false, false, false, false, false, false, false, false, false, false, false, false, false, false] (by kernel_rfl) rfl rfl ⟨(blk_cell BK274.out 0).trans rfl, (blk_cell BK274.out 1).trans rfl, (blk_cell BK275.out 0).trans rfl, (blk_cell BK275.out 1).trans rfl, ((HB.out.cell (World.block_lt_of_cell? w _ hw281_0)).trans hw281_0), ((HB.out.cell (World.block_lt_of_cell? w _ hw282_0)).trans hw282_0)⟩ (fun hHeld => ?_); refine with_tabW arboristref03_Semijoin.tab9 arboristref03_Semijoin.bits9 (fun HT_ HW_ => ?_)
                      generalize wr.drew = w37 at HO_281000 HO_281001 BK274 BK275 BK276 BK280 HB HR281_0 HR282_0 hx281_0 hx282_0 hHeld ⊢
                      refine pure_ (i := 0) (N := some 27) (v := ?_) (a' := ?_) #[true, false, false, false, false, false, false, false, false, false, false, false, false, false, false, false, false, false, false] rfl rfl (any_of HT_.out (by kernel_rfl)) (fun _ _ _ h => h) (Or.inl ⟨by rfl, ?_⟩) ?_ ?_
                      rotate_left
                      · intro w'
                        go_simp
                        with_reducible rfl
                      rotate_left
                      · simp only [Act.put, List.setIfInBounds_toArray, List.set_cons_zero, List.set_cons_succ, i64_w, i32_w]
                        rfl
                      refine pure_ (i := 1) (N := some 28) (v := ?_) (a' := ?_) #[true, true, false, false, false, false, false, false, false, false, false, false, false, false, false, false, false, false, false] rfl rfl (any_of HT_.out (by kernel_rfl)) (fun _ _ _ h => h) (Or.inl ⟨by rfl, ?_⟩) ?_ ?_
                      rotate_left
                      · intro w'
                        go_simp
                        with_reducible rfl
                      rotate_left
                      · simp only [Act.put, List.setIfInBounds_toArray, List.set_cons_zero, List.set_cons_succ, i64_w, i32_w]
                        rfl
                      refine pure_ (i := 2) (N := some 29) (v := ?_) (a' := ?_) #[true, true, true, false, false, false, false, false, false, false, false, false, false, false, false, false, false, false, false] rfl rfl (any_of HT_.out (by kernel_rfl)) (fun _ _ _ h => h) (Or.inl ⟨by rfl, ?_⟩) ?_ ?_
                      rotate_left
                      · intro w'
                        go_simp
                        with_reducible rfl
                      rotate_left
                      · simp only [Act.put, List.setIfInBounds_toArray, List.set_cons_zero, List.set_cons_succ, i64_w, i32_w]
                        rfl
                      refine pure_ (i := 4) (N := some 31) (v := ?_) (a' := ?_) #[true, true, true, false, true, false, false, false, false, false, false, false, false, false, false, false, false, false, false] rfl rfl (any_of HT_.out (by kernel_rfl)) (fun _ _ _ h => h) (Or.inl ⟨by rfl, ?_⟩) ?_ ?_
                      rotate_left
                      · intro w'
                        go_simp
                        with_reducible rfl
                      rotate_left
                      · simp only [Act.put, List.setIfInBounds_toArray, List.set_cons_zero, List.set_cons_succ, i64_w, i32_w]
                        rfl
                      refine pure_ (i := 6) (N := some 33) (v := ?_) (a' := ?_) #[true, true, true, false, true, false, true, false, false, false, false, false, false, false, false, false, false, false, false] rfl rfl (any_of HT_.out (by kernel_rfl)) (fun _ _ _ h => h) (Or.inl ⟨by rfl, ?_⟩) ?_ ?_
                      rotate_left
                      · intro w'
                        go_simp
                        with_reducible rfl
                      rotate_left
                      · simp only [Act.put, List.setIfInBounds_toArray, List.set_cons_zero, List.set_cons_succ, i64_w, i32_w]
                        rfl
                      refine pure_ (i := 9) (N := some 36) (v := ?_) (a' := ?_) #[true, true, true, false, true, false, true, false, false, true, false, false, false, false, false, false, false, false, false] rfl rfl (any_of HT_.out (by kernel_rfl)) (fun _ _ _ h => h) (Or.inl ⟨by rfl, ?_⟩) ?_ ?_
                      rotate_left
                      · intro w'
                        go_simp
                        with_reducible rfl
                      rotate_left
                      · simp only [Act.put, List.setIfInBounds_toArray, List.set_cons_zero, List.set_cons_succ, i64_w, i32_w]
                        rfl
                      refine pure_ (i := 11) (N := some 38) (v := ?_) (a' := ?_) #[true, true, true, false, true, false, true, false, false, true, false, true, false, false, false, false, false, false, false] rfl rfl (any_of HT_.out (by kernel_rfl)) (fun _ _ _ h => h) (Or.inl ⟨by rfl, ?_⟩) ?_ ?_
                      rotate_left
                      · intro w'
                        go_simp
                        with_reducible rfl
                      rotate_left
                      · simp only [Act.put, List.setIfInBounds_toArray, List.set_cons_zero, List.set_cons_succ, i64_w, i32_w]
                        rfl
                      refine pure_ (i := 13) (N := some 40) (v := ?_) (a' := ?_) #[true, true, true, false, true, false, true, false, false, true, false, true, false, true, false, false, false, false, false] rfl rfl (any_of HT_.out (by kernel_rfl)) (fun _ _ _ h => h) (Or.inl ⟨by rfl, ?_⟩) ?_ ?_
                      rotate_left
                      · intro w'
                        go_simp
                        with_reducible rfl
                      rotate_left
                      · simp only [Act.put, List.setIfInBounds_toArray, List.set_cons_zero, List.set_cons_succ, i64_w, i32_w]
                        rfl
                      refine take_ (i := 3) (N := some 30) (v := ?_) (a' := ?_) #[true, true, true, true, true, false, true, false, false, true, false, true, false, true, false, false, false, false, false] rfl rfl (take_ofW HT_.out HW_.out (by kernel_rfl)) (fun _ _ _ h => h) (Or.inl ⟨by rfl, ?_⟩) hHeld ?_ ?_
                      rotate_left
                      · rintro w' ⟨s0, s1, s2, s3, s4, s5⟩
                        go_simp
                        with_reducible rfl
                      rotate_left
                      · simp only [Act.put, List.setIfInBounds_toArray, List.set_cons_zero, List.set_cons_succ, i64_w, i32_w]
                        rfl
                      refine take_ (i := 5) (N := some 32) (v := ?_) (a' := ?_) #[true, true, true, true, true, true, true, false, false, true, false, true, false, true, false, false, false, false, false] rfl rfl (take_ofW HT_.out HW_.out (by kernel_rfl)) (fun _ _ _ h => h) (Or.inl ⟨by rfl, ?_⟩) hHeld ?_ ?_
                      rotate_left
                      · rintro w' ⟨s0, s1, s2, s3, s4, s5⟩
                        go_simp
                        with_reducible rfl
                      rotate_left
                      · simp only [Act.put, List.setIfInBounds_toArray, List.set_cons_zero, List.set_cons_succ, i64_w, i32_w]
                        rfl
                      refine pure_ (i := 7) (N := some 34) (v := ?_) (a' := ?_) #[true, true, true, true, true, true, true, true, false, true, false, true, false, true, false, false, false, false, false] rfl rfl (any_of HT_.out (by kernel_rfl)) (fun _ _ _ h => h) (Or.inl ⟨by rfl, ?_⟩) ?_ ?_
                      rotate_left
                      · intro w'
                        go_simp
                        with_reducible rfl
                      rotate_left
                      · simp only [Act.put, List.setIfInBounds_toArray, List.set_cons_zero, List.set_cons_succ, i64_w, i32_w]
                        rfl
                      refine take_ (i := 8) (N := some 35) (v := ?_) (a' := ?_) #[true, true, true, true, true, true, true, true, true, true, false, true, false, true, false, false, false, false, false] rfl rfl (take_ofW HT_.out HW_.out (by kernel_rfl)) (fun _ _ _ h => h) (Or.inl ⟨by rfl, ?_⟩) hHeld ?_ ?_
                      rotate_left
                      · rintro w' ⟨s0, s1, s2, s3, s4, s5⟩
                        go_simp
                        with_reducible rfl
                      rotate_left
                      · simp only [Act.put, List.setIfInBounds_toArray, List.set_cons_zero, List.set_cons_succ, i64_w, i32_w]
                        rfl
                      refine take_ (i := 10) (N := some 37) (v := ?_) (a' := ?_) #[true, true, true, true, true, true, true, true, true, true, true, true, false, true, false, false, false, false, false] rfl rfl (take_ofW HT_.out HW_.out (by kernel_rfl)) (fun _ _ _ h => h) (Or.inl ⟨by rfl, ?_⟩) hHeld ?_ ?_
                      rotate_left
                      · rintro w' ⟨s0, s1, s2, s3, s4, s5⟩
                        go_simp
                        with_reducible rfl
                      rotate_left
                      · simp only [Act.put, List.setIfInBounds_toArray, List.set_cons_zero, List.set_cons_succ, i64_w, i32_w]
                        rfl
                      refine take_ (i := 12) (N := some 39) (v := ?_) (a' := ?_) #[true, true, true, true, true, true, true, true, true, true, true, true, true, true, false, false, false, false, false] rfl rfl (take_ofW HT_.out HW_.out (by kernel_rfl)) (fun _ _ _ h => h) (Or.inl ⟨by rfl, ?_⟩) hHeld ?_ ?_
                      rotate_left
                      · rintro w' ⟨s0, s1, s2, s3, s4, s5⟩
                        go_simp
                        with_reducible rfl
                      rotate_left
                      · simp only [Act.put, List.setIfInBounds_toArray, List.set_cons_zero, List.set_cons_succ, i64_w, i32_w]
                        rfl
                      refine pure_ (i := 14) (N := some 41) (v := ?_) (a' := ?_) #[true, true, true, true, true, true, true, true, true, true, true, true, true, true, true, false, false, false, false] rfl rfl (any_of HT_.out (by kernel_rfl)) (fun _ _ _ h => h) (Or.inl ⟨by rfl, ?_⟩) ?_ ?_
                      rotate_left
                      · intro w'
                        go_simp
                        with_reducible rfl
                      rotate_left
                      · simp only [Act.put, List.setIfInBounds_toArray, List.set_cons_zero, List.set_cons_succ, i64_w, i32_w]
                        rfl
                      refine take_ (i := 15) (N := some 42) (v := ?_) (a' := ?_) #[true, true, true, true, true, true, true, true, true, true, true, true, true, true, true, true, false, false, false] rfl rfl (take_ofW HT_.out HW_.out (by kernel_rfl)) (fun _ _ _ h => h) (Or.inl ⟨by rfl, ?_⟩) hHeld ?_ ?_
                      rotate_left
                      · rintro w' ⟨s0, s1, s2, s3, s4, s5⟩
                        go_simp
                        with_reducible rfl
                      rotate_left
                      · simp only [Act.put, List.setIfInBounds_toArray, List.set_cons_zero, List.set_cons_succ, i64_w, i32_w]
                        rfl
                      refine one_ (i := 16) (N := some 43) #[true, true, true, true, true, true, true, true, true, true, true, true, true, true, true, true, true, false, false] rfl rfl (one_of HT_.out (by kernel_rfl)) (by decide) (fun K hK => ?_)
                      refine goes_ Tryz.func48 (by kernel_rfl) rfl #[.slice A0_0 l0_0.length c0_0, .slice A281_0 (rd_L1 l0_1 x6_1).length c281_0, .slice A1_0 l1_0.length c1_0, .slice A282_0 (rd_L1 l1_1 x8_2).length c282_0] (by rfl) rfl rfl (by (try simp only [List.map_toArray, List.map_cons, List.map_nil]); first | done | rfl | (simp only [List.length_drop, List.length_take]; rfl)) ?_
                      with_reducible refine (arboristref03_Fit.calls k2 _ _ l0_0 _ _ (rd_L1 l0_1 x6_1) _ _ l1_0 _ _ (rd_L1 l1_1 x8_2) t283 _ ?side1 ?side2 ?side3 ?side4 ?side5 ?side6 ?side7 ?side8 A32.out).mono ?_
                      (case side1 => repeat (first | exact (Kd.C_below HR0_0.out HB.out) | (with_reducible refine Kd.C_alloc ?_ _) | (with_reducible refine Kd.C_drewN ?_ _) | (with_reducible refine Kd.C_drew ?_)))
                      (case side2 => exact HC0_0.out)
                      (case side3 => repeat (first | exact (Kd.C_below HR281_0.out HB.out) | (with_reducible refine Kd.C_alloc ?_ _) | (with_reducible refine Kd.C_drewN ?_ _) | (with_reducible refine Kd.C_drew ?_)))
                      (case side4 => exact HC281_0.out)
                      (case side5 => repeat (first | exact (Kd.C_below HR1_0.out HB.out) | (with_reducible refine Kd.C_alloc ?_ _) | (with_reducible refine Kd.C_drewN ?_ _) | (with_reducible refine Kd.C_drew ?_)))
                      (case side6 => exact HC1_0.out)
                      (case side7 => repeat (first | exact (Kd.C_below HR282_0.out HB.out) | (with_reducible refine Kd.C_alloc ?_ _) | (with_reducible refine Kd.C_drewN ?_ _) | (with_reducible refine Kd.C_drew ?_)))
                      (case side8 => exact HC282_0.out)
                      rintro e w' ⟨rfl, ⟨nd, rfl⟩⟩
                      refine ⟨_, rfl, ?_⟩
                      refine hK.out _ _ ⟨(blk_cell BK274.out 0).trans rfl, (blk_cell BK274.out 1).trans rfl, (blk_cell BK275.out 0).trans rfl, (blk_cell BK275.out 1).trans rfl, ((HB.out.cell (World.block_lt_of_cell? w _ hw281_0)).trans hw281_0), ((HB.out.cell (World.block_lt_of_cell? w _ hw282_0)).trans hw282_0)⟩ (fun hHeld => ?_)
                      clear hK K
                      refine norm_ (a' := ?_) ?_ ?_
                      rotate_left
                      · show Act.put _ (some 43) _ = _
                        simp only [Act.put, List.setIfInBounds_toArray, List.set_cons_zero, List.set_cons_succ, i64_w, i32_w]
                        rfl
                      refine pure_ (i := 17) (N := some 44) (v := ?_) (a' := ?_) #[true, true, true, true, true, true, true, true, true, true, true, true, true, true, true, true, true, true, false] rfl rfl (any_of HT_.out (by kernel_rfl)) (fun _ _ _ h => h) (Or.inl ⟨by rfl, ?_⟩) ?_ ?_
                      rotate_left
                      · intro w'
                        go_simp
                        with_reducible rfl
                      rotate_left
                      · simp only [Act.put, List.setIfInBounds_toArray, List.set_cons_zero, List.set_cons_succ, i64_w, i32_w]
                        rfl
                      refine pure_ (i := 18) (N := some 7) (v := ?_) (a' := ?_) #[true, true, true, true, true, true, true, true, true, true, true, true, true, true, true, true, true, true, true] rfl rfl (any_of HT_.out (by kernel_rfl)) (fun _ _ _ h => h) (Or.inl ⟨by rfl, ?_⟩) ?_ ?_
                      rotate_left
                      · intro w'
                        go_simp
                        with_reducible rfl
                      rotate_left
                      · simp only [Act.put, List.setIfInBounds_toArray, List.set_cons_zero, List.set_cons_succ, i64_w, i32_w]
                        rfl
                      refine done_ (done_of HT_.out (by kernel_rfl)) ?_
                      try go_wp2
                      go_roundg k2
                      case measure => have := HK1.out; have := HK2.out; omega
                      case rel => exact ⟨(t283), (wrap64 (x8_2 + 1)), (by first | rfl | (simp; done) | (simp [*]; done)), (by first | rfl | (simp; done) | (simp [*]; done)), H', ⟨by have := HK1.out; have := HK2.out; omega⟩, ⟨by (with_reducible repeat (first | apply Kd.R_alloc | apply Kd.R_drewN | apply Kd.R_drew)); exact HO_281000.out⟩, ⟨by (with_reducible repeat (first | apply Kd.S_alloc | apply Kd.S_drewN | apply Kd.S_drew)); exact HO_281001.out⟩, ⟨by (with_reducible repeat (first | refine blk_drewN ?_ _ | refine blk_drew ?_ | refine blk_alloc ?_ _)); exact BK274.out⟩, ⟨by (with_reducible repeat (first | refine blk_drewN ?_ _ | refine blk_drew ?_ | refine blk_alloc ?_ _)); exact BK275.out⟩, ⟨by (with_reducible repeat (first | refine blk_drewN ?_ _ | refine blk_drew ?_ | refine blk_alloc ?_ _)); exact BK276.out⟩, ⟨by (with_reducible repeat (first | refine blk_drewN ?_ _ | refine blk_drew ?_ | refine blk_alloc ?_ _)); exact BK280.out⟩, ⟨by repeat (first | (with_reducible first | exact HB.out | apply below_alloc | apply pw_below_drewN | apply below_drew1 | refine below_set ?_ GE274.out | refine below_set ?_ GE275.out | refine below_set ?_ GE276.out | refine below_set ?_ GE280.out) | exact HB.out)⟩⟩
                    · rw [if_neg c31] at H
                      exact absurd H (by simp)
                  · rw [if_neg c30] at H
                    exact absurd H (by simp)
                · rw [if_neg c29] at H
                  exact absurd H (by simp)
            · rw [if_neg c22] at H
              have c22b0 : decide (x8_2 < (l1_1.length : Int)) = false := decide_eq_false c22
              clear c22
              by_cases c38 : x7_2 = true
              · subst c38
                have H1 : (if 0 ≤ x6_1 then (if x6_1 < (l0_1.length : Int) then ((arboristref01_Copy.f (rd_L1 l0_1 x6_1)).bind fun t285 => (if x281001_1.length < 5864062014805 then (arboristref03_Semijoin.l0 k2 (wrap64 (x6_1 + 1)) l0_0 l0_1 l1_0 l1_1 t277 (x281001_1 ++ [t285])) else (none))) else (none)) else (none)) = some (r1, r2) := by rw [if_pos rfl] at H; exact H
                clear H
                have H := H1
                clear H1
                by_cases c39 : 0 ≤ x6_1
                · rw [if_pos c39] at H
                  have c39b0 : decide (0 ≤ x6_1) = true := decide_eq_true c39
                  clear c39
                  by_cases c40 : x6_1 < (l0_1.length : Int)
                  · rw [if_pos c40] at H
                    have c40b0 : decide (x6_1 < (l0_1.length : Int)) = true := decide_eq_true c40
                    clear c40
                    replace H := Option.bind_eq_some_iff.mp H
                    obtain ⟨t285, A410, H⟩ := H
                    replace H : (if x281001_1.length < 5864062014805 then (arboristref03_Semijoin.l0 k2 (wrap64 (x6_1 + 1)) l0_0 l0_1 l1_0 l1_1 t277 (x281001_1 ++ [t285])) else (none)) = some (r1, r2) := H
                    have A41 := Aside0.mk A410
                    clear A410
                    by_cases c42 : x281001_1.length < 5864062014805
                    · rw [if_pos c42] at H
                      have LMc42 := Aside0.mk c42
                      clear c42
                      obtain ⟨y288, hy288⟩ : ∃ y_ : List (List Int), y_ = (x281001_1 ++ [t285]) := ⟨_, rfl⟩
                      replace H : (arboristref03_Semijoin.l0 k2 (wrap64 (x6_1 + 1)) l0_0 l0_1 l1_0 l1_1 t277 y288) = some (r1, r2) := by first | (rw [hy288]; with_reducible exact H) | (have H2_ := (Option.bind_some _ _).symm.trans H; rw [hy288]; with_reducible exact H2_) | (have H2_ := (Option.bind_some _ _).symm.trans H; with_reducible exact H2_) | with_reducible exact H | (rw [hy288]; exact H) | exact H
                      have Ny288 := Aside0.mk hy288
                      clear hy288
                      have H' := Aside0.mk H
                      clear H
                      have hnb43 := NB275_274.out
                      have hnc43 := NB274_275.out
                      have hnb44 := NB275_276.out
                      have hnc44 := NB276_275.out
                      have hnb45 := NB275_280.out
                      have hnc45 := NB280_275.out
                      have hcz46_0 : wr.cell? ⟨gb275, 0, none⟩ = some (.slice A1_0 l1_0.length c1_0) := (blk_cell BK275.out 0).trans rfl
                      have hcz46_1 : wr.cell? ⟨gb275, 1, none⟩ = some (.slice A1_1 l1_1.length c1_1) := (blk_cell BK275.out 1).trans rfl
                      have hfz46_0 := blk_frozen BK275.out 0
                      have hfz46_1 := blk_frozen BK275.out 1
                      try go_wp2
                      have n0_ := Aside0.mk (Kd.R_drew HO_281000.out)
                      have n1_ := Aside0.mk (Kd.S_drew HO_281001.out)
                      have n2_ := Aside0.mk (blk_drew BK274.out)
                      have n3_ := Aside0.mk (blk_drew BK275.out)
                      have n4_ := Aside0.mk (blk_drew BK276.out)
                      have n5_ := Aside0.mk (blk_drew BK280.out)
                      have n6_ := Aside0.mk (below_drew1 HB.out)
                      clear HO_281000
                      clear HO_281001
                      clear BK274
                      clear BK275
                      clear BK276
                      clear BK280
                      clear HB
                      have HO_281000 := n0_
                      have HO_281001 := n1_
                      have BK274 := n2_
                      have BK275 := n3_
                      have BK276 := n4_
                      have BK280 := n5_
                      have HB := n6_
                      clear n0_ n1_ n2_ n3_ n4_ n5_ n6_
                      have p284 : 0 ≤ (x6_1 : Int) := of_decide_eq_true (by first | (with_reducible assumption) | assumption)
                      have q284 : x6_1 < (l0_1.length : Int) := of_decide_eq_true (by first | (with_reducible assumption) | assumption)
                      obtain ⟨ad284, A284_0, c284_0, e284, hx284_0, hl284_0, hi284_0⟩ := at_L1 HR0_1.out x6_1 p284 q284
                      have hw284_0 := hx284_0
                      cases e284
                      replace hx284_0 := (HB.out.cell (World.block_lt_of_cell? w _ hx284_0)).trans hx284_0
                      have HR284_0 := Aside0.mk hi284_0
                      have HC284_0 := Aside0.mk hl284_0
                      clear hi284_0 hl284_0
                      replace p284 := eq_true p284
                      replace q284 := eq_true q284
                      refine start_ (n := 12) (S := fun w' => w'.cell? ⟨gb280, 0, none⟩ = some (.slice Ao11 t277.length co11) ∧ w'.cell? ⟨gb280, 1, none⟩ = some (u281001) ∧ w'.cell? ⟨gb274, 0, none⟩ = some (.slice A0_0 l0_0.length c0_0) ∧ w'.cell? ⟨gb274, 1, none⟩ = some (.slice (some ad284) l0_1.length c0_1) ∧ w'.cell? (ad284.add (x6_1).toNat) = some (.slice A284_0 (rd_L1 l0_1 x6_1).length c284_0)) (ds := [11]) #[false, false, false, false, false, false, false, false, false, false, false, false] (by kernel_rfl) rfl rfl ⟨(blk_cell BK280.out 0).trans rfl, (blk_cell BK280.out 1).trans rfl, (blk_cell BK274.out 0).trans rfl, (blk_cell BK274.out 1).trans rfl, ((HB.out.cell (World.block_lt_of_cell? w _ hw284_0)).trans hw284_0)⟩ (fun hHeld => ?_); refine with_tabW arboristref03_Semijoin.tab11 arboristref03_Semijoin.bits11 (fun HT_ HW_ => ?_)
                      generalize wr.drew = w47 at HO_281000 HO_281001 BK274 BK275 BK276 BK280 HB HR284_0 hx284_0 hHeld ⊢
                      refine pure_ (i := 0) (N := some 46) (v := ?_) (a' := ?_) #[true, false, false, false, false, false, false, false, false, false, false, false] rfl rfl (any_of HT_.out (by kernel_rfl)) (fun _ _ _ h => h) (Or.inl ⟨by rfl, ?_⟩) ?_ ?_
                      rotate_left
                      · intro w'
                        go_simp
                        with_reducible rfl
                      rotate_left
                      · simp only [Act.put, List.setIfInBounds_toArray, List.set_cons_zero, List.set_cons_succ, i64_w, i32_w]
                        rfl
                      refine pure_ (i := 2) (N := some 48) (v := ?_) (a' := ?_) #[true, false, true, false, false, false, false, false, false, false, false, false] rfl rfl (any_of HT_.out (by kernel_rfl)) (fun _ _ _ h => h) (Or.inl ⟨by rfl, ?_⟩) ?_ ?_
                      rotate_left
                      · intro w'
                        go_simp
                        with_reducible rfl
                      rotate_left
                      · simp only [Act.put, List.setIfInBounds_toArray, List.set_cons_zero, List.set_cons_succ, i64_w, i32_w]
                        rfl
                      refine pure_ (i := 4) (N := some 50) (v := ?_) (a' := ?_) #[true, false, true, false, true, false, false, false, false, false, false, false] rfl rfl (any_of HT_.out (by kernel_rfl)) (fun _ _ _ h => h) (Or.inl ⟨by rfl, ?_⟩) ?_ ?_
                      rotate_left
                      · intro w'
                        go_simp
                        with_reducible rfl
                      rotate_left
                      · simp only [Act.put, List.setIfInBounds_toArray, List.set_cons_zero, List.set_cons_succ, i64_w, i32_w]
                        rfl
                      refine take_ (i := 1) (N := some 47) (v := ?_) (a' := ?_) #[true, true, true, false, true, false, false, false, false, false, false, false] rfl rfl (take_ofW HT_.out HW_.out (by kernel_rfl)) (fun _ _ _ h => h) (Or.inl ⟨by rfl, ?_⟩) hHeld ?_ ?_
                      rotate_left
                      · rintro w' ⟨s0, s1, s2, s3, s4⟩
                        go_simp
                        with_reducible rfl
                      rotate_left
                      · simp only [Act.put, List.setIfInBounds_toArray, List.set_cons_zero, List.set_cons_succ, i64_w, i32_w]
                        rfl
                      refine take_ (i := 3) (N := some 49) (v := ?_) (a' := ?_) #[true, true, true, true, true, false, false, false, false, false, false, false] rfl rfl (take_ofW HT_.out HW_.out (by kernel_rfl)) (fun _ _ _ h => h) (Or.inl ⟨by rfl, ?_⟩) hHeld ?_ ?_
                      rotate_left
                      · rintro w' ⟨s0, s1, s2, s3, s4⟩
                        go_simp
                        with_reducible rfl
                      rotate_left
                      · simp only [Act.put, List.setIfInBounds_toArray, List.set_cons_zero, List.set_cons_succ, i64_w, i32_w]
                        rfl
                      refine pure_ (i := 5) (N := some 51) (v := ?_) (a' := ?_) #[true, true, true, true, true, true, false, false, false, false, false, false] rfl rfl (any_of HT_.out (by kernel_rfl)) (fun _ _ _ h => h) (Or.inl ⟨by rfl, ?_⟩) ?_ ?_
                      rotate_left
                      · intro w'
                        go_simp
                        with_reducible rfl
                      rotate_left
                      · simp only [Act.put, List.setIfInBounds_toArray, List.set_cons_zero, List.set_cons_succ, i64_w, i32_w]
                        rfl
                      refine take_ (i := 6) (N := some 52) (v := ?_) (a' := ?_) #[true, true, true, true, true, true, true, false, false, false, false, false] rfl rfl (take_ofW HT_.out HW_.out (by kernel_rfl)) (fun _ _ _ h => h) (Or.inl ⟨by rfl, ?_⟩) hHeld ?_ ?_
                      rotate_left
                      · rintro w' ⟨s0, s1, s2, s3, s4⟩
                        go_simp
                        with_reducible rfl
                      rotate_left
                      · simp only [Act.put, List.setIfInBounds_toArray, List.set_cons_zero, List.set_cons_succ, i64_w, i32_w]
                        rfl
                      refine one_ (i := 7) (N := some 53) #[true, true, true, true, true, true, true, true, false, false, false, false] rfl rfl (one_of HT_.out (by kernel_rfl)) (by decide) (fun K hK => ?_)
                      refine goes_ Tryz.func52 (by kernel_rfl) rfl #[.slice A284_0 (rd_L1 l0_1 x6_1).length c284_0] (by rfl) rfl rfl (by (try simp only [List.map_toArray, List.map_cons, List.map_nil]); first | done | rfl | (simp only [List.length_drop, List.length_take]; rfl)) ?_
                      with_reducible refine (arboristref01_Copy.calls _ _ (rd_L1 l0_1 x6_1) t285 _ ?side1 ?side2 A41.out).mono ?_
                      (case side1 => repeat (first | exact (Kd.C_below HR284_0.out HB.out) | (with_reducible refine Kd.C_alloc ?_ _) | (with_reducible refine Kd.C_drewN ?_ _) | (with_reducible refine Kd.C_drew ?_)))
                      (case side2 => exact HC284_0.out)
                      rintro e w48 ⟨v286, rfl, ho0, hb⟩
                      refine ⟨_, rfl, ?_⟩
                      have n0_ := Aside0.mk (Kd.R_elder' (by (with_reducible repeat (first | apply Kd.R_alloc | apply Kd.R_drewN | apply Kd.R_drew)); exact HO_281000.out) (Kd.R_base ho0) hb)
                      have n1_ := Aside0.mk (Kd.S_elder' (by (with_reducible repeat (first | apply Kd.S_alloc | apply Kd.S_drewN | apply Kd.S_drew)); exact HO_281001.out) (Kd.R_base ho0) hb)
                      have n2_ := Aside0.mk (Kd.R_lower (Kd.R_new' ho0 (Kd.R_lt (by (with_reducible repeat (first | apply Kd.R_alloc | apply Kd.R_drewN | apply Kd.R_drew)); exact HO_281000.out))) (below_size (by repeat (first | (with_reducible first | exact HB.out | apply below_alloc | apply pw_below_drewN | apply below_drew1 | refine below_set ?_ GE274.out | refine below_set ?_ GE275.out | refine below_set ?_ GE276.out | refine below_set ?_ GE280.out) | exact HB.out))))
                      have n3_ := Aside0.mk (blk_below (g := gb274) (o := .cells #[.slice A0_0 l0_0.length c0_0, .slice (some ad284) l0_1.length c0_1] 27 (0, 0)) (by (with_reducible repeat (first | refine blk_drewN ?_ _ | refine blk_drew ?_ | refine blk_alloc ?_ _)); exact BK274.out) hb)
                      have n4_ := Aside0.mk (blk_below (g := gb275) (o := .cells #[.slice A1_0 l1_0.length c1_0, .slice A1_1 l1_1.length c1_1] 27 (0, 0)) (by (with_reducible repeat (first | refine blk_drewN ?_ _ | refine blk_drew ?_ | refine blk_alloc ?_ _)); exact BK275.out) hb)
                      have n5_ := Aside0.mk (blk_below (g := gb276) (o := .cells #[.slice none 0 0, .slice none 0 0] 27 (0, 0)) (by (with_reducible repeat (first | refine blk_drewN ?_ _ | refine blk_drew ?_ | refine blk_alloc ?_ _)); exact BK276.out) hb)
                      have n6_ := Aside0.mk (blk_below (g := gb280) (o := .cells #[.slice Ao11 t277.length co11, u281001] 27 (0, 0)) (by (with_reducible repeat (first | refine blk_drewN ?_ _ | refine blk_drew ?_ | refine blk_alloc ?_ _)); exact BK280.out) hb)
                      have n7_ := Aside0.mk (below_step (by repeat (first | (with_reducible first | exact HB.out | apply below_alloc | apply pw_below_drewN | apply below_drew1 | refine below_set ?_ GE274.out | refine below_set ?_ GE275.out | refine below_set ?_ GE276.out | refine below_set ?_ GE280.out) | exact HB.out)) hb)
                      clear HO_281000
                      clear HO_281001
                      clear BK274
                      clear BK275
                      clear BK276
                      clear BK280
                      clear HB
                      have HO_281000 := n0_
                      have HO_281001 := n1_
                      have HO287 := n2_
                      have BK274 := n3_
                      have BK275 := n4_
                      have BK276 := n5_
                      have BK280 := n6_
                      have HB := n7_
                      clear n0_ n1_ n2_ n3_ n4_ n5_ n6_ n7_
                      (try clear hb)
                      (try clear hb2)
                      (try clear hk)
                      (try clear hi)
                      (try clear ho0)
                      obtain ⟨Ao50, co50, eo50⟩ := Kd.R_slice HO287.out
                      (first | subst eo50 | (injection eo50 with f1_ f2_ f3_; have f4_ := f1_.symm; have f5_ := f3_.symm; clear f1_ f2_ f3_; subst f4_; subst f5_))
                      refine hK.out _ _ ⟨(blk_cell BK280.out 0).trans rfl, (blk_cell BK280.out 1).trans rfl, (blk_cell BK274.out 0).trans rfl, (blk_cell BK274.out 1).trans rfl, ((HB.out.cell (World.block_lt_of_cell? w _ hw284_0)).trans hw284_0)⟩ (fun hHeld => ?_)
                      clear hK K
                      refine norm_ (a' := ?_) ?_ ?_
                      rotate_left
                      · show Act.put _ (some 53) _ = _
                        simp only [Act.put, List.setIfInBounds_toArray, List.set_cons_zero, List.set_cons_succ, i64_w, i32_w]
                        rfl
                      refine one_ (i := 8) (N := some 54) #[true, true, true, true, true, true, true, true, true, false, false, false] rfl rfl (one_of HT_.out (by kernel_rfl)) (by decide) (fun K hK => ?_)
                      refine value_ (w1 := ?_) (v := ?_) (by rfl) rfl ?_ ?_
                      rotate_left 2
                      · go_simp
                        constructor
                        · rfl
                        · rfl
                      refine hK.out _ _ ⟨(blk_cell (blk_alloc BK280.out _) 0).trans rfl, (blk_cell (blk_alloc BK280.out _) 1).trans rfl, (blk_cell (blk_alloc BK274.out _) 0).trans rfl, (blk_cell (blk_alloc BK274.out _) 1).trans rfl, (World.cell?_alloc_lt _ _ _ (World.block_lt_of_cell? _ _ (((HB.out.cell (World.block_lt_of_cell? w _ hw284_0)).trans hw284_0)))).trans (((HB.out.cell (World.block_lt_of_cell? w _ hw284_0)).trans hw284_0))⟩ (fun hHeld => ?_)
                      clear hK K
                      refine norm_ (a' := ?_) ?_ ?_
                      rotate_left
                      · show Act.put _ (some 54) _ = _
                        simp only [Act.put, List.setIfInBounds_toArray, List.set_cons_zero, List.set_cons_succ, i64_w, i32_w]
                        rfl
                      refine one_ (i := 9) (N := some 55) #[true, true, true, true, true, true, true, true, true, true, false, false] rfl rfl (one_of HT_.out (by kernel_rfl)) (by decide) (fun K hK => ?_)
                      refine Kd.S_append_step (Kd.slice 3 (Kd.int .i64)) (w0 := w) w.heap.size (by rfl) (.tmp 47) (.tmp 54) 23 22 (.slice none 0 0) 24 rfl Tryz.underlying23 info22 rfl (by decide) (by omega) u281001 x281001_1 t285 [.slice Ao50 t285.length co50] (fun k_ => some k_ ≠ (.slice Ao11 t277.length co11 : Value).ownBlock) (fun k_ => some k_ = (.slice Ao50 t285.length co50 : Value).ownBlock) rfl rfl ?aP (fun k_ hk_ => ((Kd.R_mono (ok' := fun k_ => ((fun k_ => some k_ ≠ (.slice Ao11 t277.length co11 : Value).ownBlock)) k_ ∧ some k_ ≠ (u281001 : Value).ownBlock) (Kd.R_apart' (HO287.out) (Kd.S_typed HO_281001.out) (by decide)) (fun k_ hk => ⟨hk.1.2, hk.2⟩))).1 k_ hk_.symm) ?aF ?aO ?aB ?aS ?aL ?_
                      (case aP => exact Kd.M_row (Kd.R_mono (Kd.R_tight rfl (Kd.R_mono (ok' := fun k_ => ((fun k_ => some k_ ≠ (.slice Ao11 t277.length co11 : Value).ownBlock)) k_ ∧ some k_ ≠ (u281001 : Value).ownBlock) (Kd.R_apart' (HO287.out) (Kd.S_typed HO_281001.out) (by decide)) (fun k_ hk => ⟨hk.1.2, hk.2⟩))) (fun _ h_ => h_)))
                      (case aB => exact (by repeat (first | (with_reducible first | exact HB.out | apply below_alloc | apply pw_below_drewN | apply below_drew1 | refine below_set ?_ GE274.out | refine below_set ?_ GE275.out | refine below_set ?_ GE276.out | refine below_set ?_ GE280.out) | exact HB.out)))
                      (case aF => exact (fun k_ hk => Kd.fresh' (Kd.R_lt (by (with_reducible repeat (first | apply Kd.R_alloc | apply Kd.R_drewN | apply Kd.R_drew)); exact HO_281000.out)) k_ hk))
                      (case aO => exact (by (with_reducible repeat (first | apply Kd.S_alloc | apply Kd.S_drewN | apply Kd.S_drew)); exact Kd.S_mono HO_281001.out (fun k_ hk => ⟨hk.1, fun e_ => hk.2 e_⟩)))
                      (case aS => exact (below_size (by repeat (first | (with_reducible first | exact HB.out | apply below_alloc | apply pw_below_drewN | apply below_drew1 | refine below_set ?_ GE274.out | refine below_set ?_ GE275.out | refine below_set ?_ GE276.out | refine below_set ?_ GE280.out) | exact HB.out))))
                      (case aL => have := LMc42.out; omega)
                      intro v289 w49 ho hb hg hat
                      rw [← Ny288.out] at ho
                      have n0_ := Aside0.mk (Kd.R_over' (by (with_reducible repeat (first | apply Kd.R_alloc | apply Kd.R_drewN | apply Kd.R_drew)); exact HO_281000.out) (Kd.S_typed (by (with_reducible repeat (first | apply Kd.S_alloc | apply Kd.S_drewN | apply Kd.S_drew)); exact HO_281001.out)) (by decide) hg)
                      have n1_ := Aside0.mk (blk_grown (g := gb274) (o := .cells #[.slice A0_0 l0_0.length c0_0, .slice (some ad284) l0_1.length c0_1] 27 (0, 0)) (by (with_reducible repeat (first | refine blk_drewN ?_ _ | refine blk_drew ?_ | refine blk_alloc ?_ _)); exact BK274.out) hg (Kd.S_ne HO_281001.out BK274.out (by decide)))
                      have n2_ := Aside0.mk (blk_grown (g := gb275) (o := .cells #[.slice A1_0 l1_0.length c1_0, .slice A1_1 l1_1.length c1_1] 27 (0, 0)) (by (with_reducible repeat (first | refine blk_drewN ?_ _ | refine blk_drew ?_ | refine blk_alloc ?_ _)); exact BK275.out) hg (Kd.S_ne HO_281001.out BK275.out (by decide)))
                      have n3_ := Aside0.mk (blk_grown (g := gb276) (o := .cells #[.slice none 0 0, .slice none 0 0] 27 (0, 0)) (by (with_reducible repeat (first | refine blk_drewN ?_ _ | refine blk_drew ?_ | refine blk_alloc ?_ _)); exact BK276.out) hg (Kd.S_ne HO_281001.out BK276.out (by decide)))
                      have n4_ := Aside0.mk (blk_grown (g := gb280) (o := .cells #[.slice Ao11 t277.length co11, u281001] 27 (0, 0)) (by (with_reducible repeat (first | refine blk_drewN ?_ _ | refine blk_drew ?_ | refine blk_alloc ?_ _)); exact BK280.out) hg (Kd.S_ne HO_281001.out BK280.out (by decide)))
                      have n5_ := Aside0.mk (hb)
                      have n6_ := Aside0.mk (ho)
                      clear HO_281000
                      clear BK274
                      clear BK275
                      clear BK276
                      clear BK280
                      clear HB
                      clear HO_281001
                      clear HO287
                      have HO_281000 := n0_
                      have BK274 := n1_
                      have BK275 := n2_
                      have BK276 := n3_
                      have BK280 := n4_
                      have HB := n5_
                      have HO290 := n6_
                      clear n0_ n1_ n2_ n3_ n4_ n5_ n6_
                      clear ho hb hg hat
                      obtain ⟨Ao51, co51, eo51⟩ := Kd.S_slice HO290.out
                      (first | subst eo51 | (injection eo51 with f1_ f2_ f3_; have f4_ := f1_.symm; have f5_ := f3_.symm; clear f1_ f2_ f3_; subst f4_; subst f5_))
                      refine hK.out _ _ ⟨(blk_cell BK280.out 0).trans rfl, (blk_cell BK280.out 1).trans rfl, (blk_cell BK274.out 0).trans rfl, (blk_cell BK274.out 1).trans rfl, ((HB.out.cell (World.block_lt_of_cell? w _ hw284_0)).trans hw284_0)⟩ (fun hHeld => ?_)
                      clear hK K
                      refine norm_ (a' := ?_) ?_ ?_
                      rotate_left
                      · show Act.put _ (some 55) _ = _
                        simp only [Act.put, List.setIfInBounds_toArray, List.set_cons_zero, List.set_cons_succ, i64_w, i32_w]
                        rfl
                      refine pure_ (i := 10) (N := some 56) (v := ?_) (a' := ?_) #[true, true, true, true, true, true, true, true, true, true, true, false] rfl rfl (any_of HT_.out (by kernel_rfl)) (fun _ _ _ h => h) (Or.inl ⟨by rfl, ?_⟩) ?_ ?_
                      rotate_left
                      · intro w'
                        go_simp
                        with_reducible rfl
                      rotate_left
                      · simp only [Act.put, List.setIfInBounds_toArray, List.set_cons_zero, List.set_cons_succ, i64_w, i32_w]
                        rfl
                      refine last_ (i := 11) (N := none) #[true, true, true, true, true, true, true, true, true, true, true, true] rfl rfl (one_of HT_.out (by kernel_rfl)) (by decide) (fun K hK => ?_)
                      have hs52 : w49.cell? ⟨gb280, 1, none⟩ = some (u281001) := (blk_cell BK280.out 1).trans rfl
                      have hfs52 := blk_frozen BK280.out 1
                      have hns52_0 := NB274_280.out
                      have hns52_1 := NB275_280.out
                      have hns52_2 := NB276_280.out
                      have hms52_0 := NB280_274.out
                      have hms52_1 := NB280_275.out
                      have hms52_2 := NB280_276.out
                      refine skip_ (w1 := ?_) (by rfl) rfl ?_ ?_
                      rotate_left
                      · go_simp
                        rfl
                      refine hK.out _ _ ?_
                      clear hK K
                      refine done_ (done_of HT_.out (by kernel_rfl)) ?_
                      try go_wp2
                      go_roundg k2
                      case measure => have := HK1.out; have := HK2.out; omega
                      case rel => exact ⟨(wrap64 (x6_1 + 1)), (y288), (.slice Ao51 y288.length co51), (by first | rfl | (simp; done) | (simp [*]; done)), H', ⟨by have := HK1.out; have := HK2.out; omega⟩, ⟨by (with_reducible repeat (first | apply Kd.R_alloc | apply Kd.R_drewN | apply Kd.R_drew)); exact Kd.R_mono (Kd.R_far (p := ⟨gb280, 1, none⟩) (Kd.R_types HO_281000.out BK280.out (by decide)) (fun _ hk => hk.2) (.slice Ao51 y288.length co51)) (fun _ hk => trivial)⟩, ⟨by (with_reducible repeat (first | apply Kd.S_alloc | apply Kd.S_drewN | apply Kd.S_drew)); exact Kd.S_mono (Kd.S_far (p := ⟨gb280, 1, none⟩) (Kd.S_types HO290.out BK280.out (by decide)) (fun _ hk => hk.2) (.slice Ao51 y288.length co51)) (fun _ hk => hk.1)⟩, ⟨by (with_reducible repeat (first | refine blk_drewN ?_ _ | refine blk_drew ?_ | refine blk_alloc ?_ _)); refine blk_far ?_ NB274_280.out _; (with_reducible repeat (first | refine blk_drewN ?_ _ | refine blk_drew ?_ | refine blk_alloc ?_ _)); exact BK274.out⟩, ⟨by (with_reducible repeat (first | refine blk_drewN ?_ _ | refine blk_drew ?_ | refine blk_alloc ?_ _)); refine blk_far ?_ NB275_280.out _; (with_reducible repeat (first | refine blk_drewN ?_ _ | refine blk_drew ?_ | refine blk_alloc ?_ _)); exact BK275.out⟩, ⟨by (with_reducible repeat (first | refine blk_drewN ?_ _ | refine blk_drew ?_ | refine blk_alloc ?_ _)); refine blk_far ?_ NB276_280.out _; (with_reducible repeat (first | refine blk_drewN ?_ _ | refine blk_drew ?_ | refine blk_alloc ?_ _)); exact BK276.out⟩, ⟨by (with_reducible repeat (first | refine blk_drewN ?_ _ | refine blk_drew ?_ | refine blk_alloc ?_ _)); refine blk_put (cs := #[.slice Ao11 t277.length co11, u281001]) ?_ 1 _ rfl; (with_reducible repeat (first | refine blk_drewN ?_ _ | refine blk_drew ?_ | refine blk_alloc ?_ _)); exact BK280.out⟩, ⟨by repeat (first | (with_reducible first | exact HB.out | apply below_alloc | apply pw_below_drewN | apply below_drew1 | refine below_set ?_ GE274.out | refine below_set ?_ GE275.out | refine below_set ?_ GE276.out | refine below_set ?_ GE280.out) | exact HB.out)⟩⟩
                    · rw [if_neg c42] at H
                      exact absurd H (by simp)
                  · rw [if_neg c40] at H
                    exact absurd H (by simp)
                · rw [if_neg c39] at H
                  exact absurd H (by simp)
              · replace c38 := Bool.eq_false_iff.mpr c38
                subst c38
                have H1 : (arboristref03_Semijoin.l0 k2 (wrap64 (x6_1 + 1)) l0_0 l0_1 l1_0 l1_1 t277 x281001_1) = some (r1, r2) := by rw [if_neg (show ¬ (false = true) by decide)] at H; exact H
                clear H
                have H := H1
                clear H1
                have H' := Aside0.mk H
                clear H
                have hnb53 := NB275_274.out
                have hnc53 := NB274_275.out
                have hnb54 := NB275_276.out
                have hnc54 := NB276_275.out
                have hnb55 := NB275_280.out
                have hnc55 := NB280_275.out
                have hcz56_0 : wr.cell? ⟨gb275, 0, none⟩ = some (.slice A1_0 l1_0.length c1_0) := (blk_cell BK275.out 0).trans rfl
                have hcz56_1 : wr.cell? ⟨gb275, 1, none⟩ = some (.slice A1_1 l1_1.length c1_1) := (blk_cell BK275.out 1).trans rfl
                have hfz56_0 := blk_frozen BK275.out 0
                have hfz56_1 := blk_frozen BK275.out 1
                go_wp2
                go_roundg k2
                case measure => have := HK1.out; have := HK2.out; omega
                case rel => exact ⟨(wrap64 (x6_1 + 1)), (x281001_1), (u281001), (by first | rfl | (simp; done) | (simp [*]; done)), H', ⟨by have := HK1.out; have := HK2.out; omega⟩, ⟨by (with_reducible repeat (first | apply Kd.R_alloc | apply Kd.R_drewN | apply Kd.R_drew)); exact HO_281000.out⟩, ⟨by (with_reducible repeat (first | apply Kd.S_alloc | apply Kd.S_drewN | apply Kd.S_drew)); exact HO_281001.out⟩, ⟨by (with_reducible repeat (first | refine blk_drewN ?_ _ | refine blk_drew ?_ | refine blk_alloc ?_ _)); exact BK274.out⟩, ⟨by (with_reducible repeat (first | refine blk_drewN ?_ _ | refine blk_drew ?_ | refine blk_alloc ?_ _)); exact BK275.out⟩, ⟨by (with_reducible repeat (first | refine blk_drewN ?_ _ | refine blk_drew ?_ | refine blk_alloc ?_ _)); exact BK276.out⟩, ⟨by (with_reducible repeat (first | refine blk_drewN ?_ _ | refine blk_drew ?_ | refine blk_alloc ?_ _)); exact BK280.out⟩, ⟨by repeat (first | (with_reducible first | exact HB.out | apply below_alloc | apply pw_below_drewN | apply below_drew1 | refine below_set ?_ GE274.out | refine below_set ?_ GE275.out | refine below_set ?_ GE276.out | refine below_set ?_ GE280.out) | exact HB.out)⟩⟩
      · rw [if_neg c17] at H
        have c17b0 : decide (x6_1 < (l0_1.length : Int)) = false := decide_eq_false c17
        clear c17
        simp only [Option.some.injEq, Prod.mk.injEq] at H
        obtain ⟨rfl, rfl⟩ := H
        have hnb57 := NB274_275.out
        have hnc57 := NB275_274.out
        have hnb58 := NB274_276.out
        have hnc58 := NB276_274.out
        have hnb59 := NB274_280.out
        have hnc59 := NB280_274.out
        have hcz60_0 : wr.cell? ⟨gb274, 0, none⟩ = some (.slice A0_0 l0_0.length c0_0) := (blk_cell BK274.out 0).trans rfl
        have hcz60_1 : wr.cell? ⟨gb274, 1, none⟩ = some (.slice A0_1 l0_1.length c0_1) := (blk_cell BK274.out 1).trans rfl
        have hfz60_0 := blk_frozen BK274.out 0
        have hfz60_1 := blk_frozen BK274.out 1
        have hnb61 := NB280_275.out
        have hnc61 := NB275_280.out
        have hnb62 := NB280_276.out
        have hnc62 := NB276_280.out
        have hcz63_0 : wr.cell? ⟨gb280, 0, none⟩ = some (.slice Ao11 t277.length co11) := (blk_cell BK280.out 0).trans rfl
        have hcz63_1 : wr.cell? ⟨gb280, 1, none⟩ = some (u281001) := (blk_cell BK280.out 1).trans rfl
        have hfz63_0 := blk_frozen BK280.out 0
        have hfz63_1 := blk_frozen BK280.out 1
        have hnb64 := NB276_275.out
        have hnc64 := NB275_276.out
        have hcz65_0 : wr.cell? ⟨gb276, 0, none⟩ = some (.slice none 0 0) := (blk_cell BK276.out 0).trans rfl
        have hcz65_1 : wr.cell? ⟨gb276, 1, none⟩ = some (.slice none 0 0) := (blk_cell BK276.out 1).trans rfl
        have hfz65_0 := blk_frozen BK276.out 0
        have hfz65_1 := blk_frozen BK276.out 1
        obtain ⟨Ao66, co66, eo66⟩ := Kd.S_slice HO_281001.out
        subst eo66
        go_wp2
        refine bodyPost_ret (results_cell_row rfl _ _ gb276 27 #[.slice Ao11 t277.length co11, .slice Ao66 x281001_1.length co66] (0, 0) _ rfl (by (with_reducible repeat (first | refine blk_drewN ?_ _ | refine blk_drew ?_ | refine blk_alloc ?_ _)); refine blk_put (cs := #[.slice Ao11 t277.length co11, .slice none 0 0]) ?_ 1 _ rfl; (with_reducible repeat (first | refine blk_drewN ?_ _ | refine blk_drew ?_ | refine blk_alloc ?_ _)); refine blk_put (cs := #[.slice none 0 0, .slice none 0 0]) ?_ 0 _ rfl; (with_reducible repeat (first | refine blk_drewN ?_ _ | refine blk_drew ?_ | refine blk_alloc ?_ _)); exact BK276.out) Tryz.underlying27 rfl (by kernel_rfl)) rfl ?_
        exact ⟨_, _, by first | rfl | (simp [errW_none, errW_some] <;> rfl) | (simp [*, errW_none, errW_some] <;> rfl), by (with_reducible repeat (first | apply Kd.R_alloc | apply Kd.R_drewN | apply Kd.R_drew)); exact Kd.R_mono (Kd.R_far (p := ⟨gb276, 1, none⟩) (Kd.R_far (p := ⟨gb276, 0, none⟩) (Kd.R_types HO_281000.out BK276.out (by decide)) (fun _ hk => hk.2) (.slice Ao11 t277.length co11)) (fun _ hk => hk.2) (.slice Ao66 x281001_1.length co66)) (fun _ hk => trivial), by (with_reducible repeat (first | apply Kd.S_alloc | apply Kd.S_drewN | apply Kd.S_drew)); exact Kd.S_mono (Kd.S_far (p := ⟨gb276, 1, none⟩) (Kd.S_far (p := ⟨gb276, 0, none⟩) (Kd.S_types HO_281001.out BK276.out (by decide)) (fun _ hk => hk.2) (.slice Ao11 t277.length co11)) (fun _ hk => hk.2) (.slice Ao66 x281001_1.length co66)) (fun _ hk => hk.1), by repeat (first | (with_reducible first | exact HB.out | apply below_alloc | apply pw_below_drewN | apply below_drew1 | refine below_set ?_ GE274.out | refine below_set ?_ GE275.out | refine below_set ?_ GE276.out | refine below_set ?_ GE280.out) | exact HB.out)⟩

end Go.Proofs.YtgpbhmcmbigbdaaGreatDoor.PRefs
