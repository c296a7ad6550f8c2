/- slices.CompactFunc at rows of rows, by slices.Equal, in place. -/
import Derived.Test.YtlinhcgggfdlpaaRead2
import Derived.Lib.SliceRun
import Derived.Sort.Row
import Derived.Lib.SlBuf
import Derived.IntWalk
import Derived.Shelf.Abstract
set_option linter.unusedVariables false
set_option linter.unusedSimpArgs false
namespace Go.Proofs.Ytlinhcgggfdlpaa.G
open Go.RowKit Go.Proofs.YtlinhcgggfdlpaaW.PrintWords Go.Proofs.YtlinhcgggfdlpaaW.PrintLast Go.Proofs.YtlinhcgggfdlpaaW.PrintMore

/-- Block g holds a row of rows: its cells, and what each leads to, which lies elsewhere. -/
structure RowsAt (W : World) (B g : Nat) (cur : Array Value) (xs : List (List Int)) : Prop where
  blk : W.heap[g]? = some (.cells cur 22 (0, 0))
  len : xs.length ≤ cur.size
  row : ∀ j (h : j < xs.length), Kd.FK KL W (fun k => B ≤ k ∧ k ≠ g) xs[j] [cur[j]!]

theorem FK_open {W : World} {ok : Nat → Prop} {x : List Int} {v : Value} (h : Kd.FK KL W ok x [v]) : ∃ A c, v = .slice A x.length c ∧ x.length ≤ c ∧ Kd.C KI W A x.length x := by
  obtain ⟨A, c, e, hl, hc⟩ := Kd.FK_now h
  injection e with e
  exact ⟨A, c, e, hl, hc⟩

theorem RowsAt.cell {W : World} {B g : Nat} {cur : Array Value} {xs : List (List Int)} (h : RowsAt W B g cur xs) (j : Nat) (hj : j < cur.size) : W.cell? ⟨g, j, none⟩ = some cur[j]! := by
  rw [cell_of_row W g j cur _ _ h.blk]; simp [hj]
theorem RowsAt.frozen {W : World} {B g : Nat} {cur : Array Value} {xs : List (List Int)} (h : RowsAt W B g cur xs) (j : Nat) : W.frozen? ⟨g, j, none⟩ = false := by
  simp [World.frozen?, h.blk]
theorem RowsAt.keep {W W1 : World} {B g : Nat} {cur : Array Value} {xs : List (List Int)} (h : RowsAt W B g cur xs) (hb : Below W.heap.size W W1) : RowsAt W1 B g cur xs :=
  ⟨(hb.block g (Array.getElem?_eq_some_iff.1 h.blk).1).trans h.blk, h.len, fun j hj => Kd.FK_below (h.row j hj) hb⟩

theorem RowsAt.put {W W1 : World} {B g : Nat} {cur cur' : Array Value} {xs : List (List Int)} (h : RowsAt W B g cur xs) (hk : KeepBut W W1 g none) (hb : W1.heap[g]? = some (.cells cur' 22 (0, 0))) (hs : cur'.size = cur.size)
    (he : ∀ j, j < xs.length → cur'[j]! = cur[j]!) : RowsAt W1 B g cur' xs :=
  ⟨hb, by rw [hs]; exact h.len, fun j hj => by rw [he j hj]; exact Kd.FK_step (h.row j hj) (fun k hk' hlt => hk.2 k hlt hk'.2 (by simp))⟩
theorem blk_set1 {W : World} {g e : Nat} {cur : Array Value} (h : W.heap[g]? = some (.cells cur e (0, 0))) (i : Nat) (u : Value) : (W.setCell ⟨g, i, none⟩ u).heap[g]? = some (.cells (cur.setIfInBounds i u) e (0, 0)) := by
  simp [World.setCell, Array.getElem?_modify, h]
theorem KeepBut.set1 (W : World) (g i : Nat) (u : Value) : KeepBut W (W.setCell ⟨g, i, none⟩ u) g none := (KeepBut.refl W g none).set_ i u
theorem blk_sets (g e : Nat) : ∀ (vs : List Value) (o : Nat) (W : World) (cur : Array Value), W.heap[g]? = some (.cells cur e (0, 0)) →
    ∃ cur', (W.setCells g o vs).heap[g]? = some (.cells cur' e (0, 0)) ∧ cur'.size = cur.size ∧ (∀ j, j < o → cur'[j]! = cur[j]!) ∧ KeepBut W (W.setCells g o vs) g none
  | [], o, W, cur, h => ⟨cur, h, rfl, fun _ _ => rfl, KeepBut.refl _ _ _⟩
  | v :: vs, o, W, cur, h => by
    obtain ⟨cur', h1, h2, h3, h4⟩ := blk_sets g e vs (o + 1) (W.setCell ⟨g, o, none⟩ v) _ (blk_set1 h o v)
    refine ⟨cur', h1, by rw [h2, Array.size_setIfInBounds], fun j hj => ?_, (KeepBut.set1 W g o v).trans h4 (.inl rfl)⟩
    rw [h3 j (by omega)]
    have hne : ¬ o = j := by omega
    simp [getElem!_def, Array.getElem?_setIfInBounds, hne]

theorem get_set_ne (cur : Array Value) (i j : Nat) (v : Value) (h : i ≠ j) : (cur.setIfInBounds i v)[j]! = cur[j]! := by simp [getElem!_def, Array.getElem?_setIfInBounds, h]
theorem get_set_eq (cur : Array Value) (i : Nat) (v : Value) (h : i < cur.size) : (cur.setIfInBounds i v)[i]! = v := by simp [getElem!_def, Array.getElem?_setIfInBounds, h]
theorem RowsAt.push {W : World} {B g : Nat} {cur : Array Value} {xs : List (List Int)} {x : List Int} {v : Value} {i : Nat} (h : RowsAt W B g cur xs) (hi : xs.length = i) (hlt : i < cur.size) (hx : Kd.FK KL W (fun k => B ≤ k ∧ k ≠ g) x [v]) :
    RowsAt (W.setCell ⟨g, i, none⟩ v) B g (cur.setIfInBounds i v) (xs ++ [x]) := by
  subst hi
  have hk := KeepBut.set1 W g xs.length v
  refine ⟨blk_set1 h.blk _ _, by simp; omega, fun j hj => ?_⟩
  by_cases e : j = xs.length
  · subst e
    rw [List.getElem_append_right (Nat.le_refl _), get_set_eq _ _ _ hlt]
    simp only [Nat.sub_self, List.getElem_cons_zero]
    exact Kd.FK_step hx (fun k hk' hl => hk.2 k hl hk'.2 (by simp))
  · have hj' : j < xs.length := by simp at hj; omega
    rw [List.getElem_append_left hj', get_set_ne _ _ _ _ (by omega)]
    exact Kd.FK_step (h.row j hj') (fun k hk' hl => hk.2 k hl hk'.2 (by simp))

/-- Two rows out of it are the same, or not. -/
theorem equal_at {W W1 : World} {x y : List Int} {u v : Value} {ok ok' : Nat → Prop} (b : Bool) (hb : decide (x = y) = b) (hx : Kd.FK KL W ok x [u]) (hy : Kd.FK KL W ok' y [v]) (hd : Drawn0 W W1) :
    Calls Try.prog 46 #[u, v] W1 fun e w' => e = .returned (.bool b) ∧ ∃ n, w' = W1.drewN n := by
  subst hb
  obtain ⟨A, c, rfl, _, hc⟩ := FK_open hx
  obtain ⟨A', c', rfl, _, hc'⟩ := FK_open hy
  exact (slices_Equal_any A c x A' c' y W1 (Kd.C_below hc hd.below) (Kd.C_below hc' hd.below)).mono fun e w' h => ⟨h.1, h.2.out⟩

/-- Behind m = kp + 2 + jp rows: what is kept stands ahead, what is to come as it stood. -/
structure CompRel (w : World) (B g kp : Nat) (cur : Array Value) (xs : List (List Int)) (kk jp : Nat) (ck : Array Value) (W : World) : Prop where
  size : ck.size = cur.size
  rest : ∀ j, kp + 1 + jp ≤ j → ck[j]! = cur[j]!
  rows : RowsAt W B g ck (Pl.dd (xs.take (kp + 1 + (jp + 1))))
  num : (Pl.dd (xs.take (kp + 1 + (jp + 1)))).length = kk
  keep : KeepBut w W g none
  below : Below g w W

set_option maxHeartbeats 2000000 in
set_option maxRecDepth 100000 in
theorem compact_any (B g c : Nat) (cur : Array Value) (xs : List (List Int)) (w : World) (hR : RowsAt w B g cur xs) (hl : cur.size = xs.length) (hc : xs.length ≤ c) (hm : xs.length ≤ 1000000000) :
    Calls Try.prog 67 #[.slice (some ⟨g, 0, none⟩) xs.length c, .func (.func 46) #[] #[]] w fun e w' =>
      ∃ cur', e = .returned (.slice (some ⟨g, 0, none⟩) (Pl.dd xs).length c) ∧ RowsAt w' B g cur' (Pl.dd xs) ∧ cur'.size = cur.size ∧ KeepBut w w' g none ∧ Below g w w' := by
  by_cases h2 : xs.length < 2
  · have hdd : Pl.dd xs = xs := by
      match xs, h2 with
      | [], _ => rfl
      | [a], _ => rfl
    have HR := Aside0.mk hR
    clear hR
    go_enter Try.func67, Try.ntmps67
    go_wp2
    go_ret
    exact ⟨cur, by rw [hdd]; rfl, by rw [hdd]; exact HR.out, rfl, KeepBut.refl _ _ _, Below.refl _ _⟩
  · have HR := Aside0.mk hR
    have HL := Aside0.mk hl
    clear hR hl
    go_enter Try.func67, Try.ntmps67
    go_wp2
    go_loopw [5] (fun i wr => ∃ k : Nat, 1 ≤ k ∧ k ≤ xs.length ∧ i = .int .i64 k ∧ Aside0 (Drawn0 w wr) ∧ Aside0 (Pl.dd (xs.take k) = xs.take k)) (fun i _ => xs.length - (intOf i).toNat)
    case atStart => exact ⟨1, Nat.le_refl _, by omega, rfl, ⟨Drawn0.refl w⟩, ⟨by cases xs with | nil => simp at h2 | cons a l => rfl⟩⟩
    case round =>
      obtain ⟨k, hk0, hk, rfl, HW, HE⟩ := hrel
      by_cases hlt : k < xs.length
      · obtain ⟨kp, rfl⟩ : ∃ kp, k = kp + 1 := ⟨k - 1, by omega⟩
        have HR1 := Aside0.mk (HR.out.keep HW.out.below)
        have hx := HR1.out.cell (kp + 1) (by have := HL.out; omega)
        have hy := HR1.out.cell kp (by have := HL.out; omega)
        have HS := Aside0.mk (Pl.dd_take_succ xs (kp + 1) (by omega) hlt)
        have hi0 : 0 ≤ (kp : Int) + 1 := by omega
        have hi1 : (kp : Int) + 1 < (xs.length : Int) := by omega
        have hi2 : (kp : Int) < (xs.length : Int) := by omega
        have hi3 : ((kp : Int) + 1).toNat = kp + 1 := by omega
        have hi4 : IntKind.i64.wrap (kp : Int) = kp := IntWalk.i64_in _ (by omega)
        have eg := enters_of Try.func46 (by kernel_rfl) rfl
        by_cases he : xs[kp + 1] = xs[kp]
        · have hb := Aside0.mk (show decide (xs[kp + 1] = xs[kp]) = true from decide_eq_true he)
          have HE2 := Aside0.mk he
          clear he
          go_wp2_with fail
          go_quiet ((go_at_call 46; exact Calls.quiet_of (equal_at true hb.out (HR1.out.row (kp + 1) hlt) (HR1.out.row kp (by omega)) ⟨⟨_, rfl⟩⟩)))
          go_wp2
          have HK : Aside0 (Drawn0 w (wr.drewN nq)) := ⟨HW.out.step _⟩
          clear hx hy hb HR1
          generalize wr.drewN nq = wo at HK ⊢
          go_loopw [5, 7] (fun i5 i7 W => ∃ (kk jp : Nat) (ck : Array Value), i5 = .int .i64 kk ∧ i7 = .int .i64 ((jp : Int) + 1) ∧ kp + 1 + (jp + 1) ≤ xs.length ∧ kk ≤ kp + 1 + jp ∧ Aside0 (CompRel w B g kp cur xs kk jp ck W)) (fun _ i7 _ => xs.length - (intOf i7).toNat)
          case atStart =>
            have hdd : Pl.dd (xs.take (kp + 1 + 1)) = xs.take (kp + 1) := by rw [HS.out, if_pos (by simpa using HE2.out.symm), HE.out]
            have hR := HR.out.keep HK.out.below
            refine ⟨kp + 1, 0, cur, rfl, rfl, by omega, by omega, ⟨rfl, fun _ _ => rfl, ?_, ?_, KeepBut.of_below HK.out.below _ _, HK.out.below.mono (Nat.le_of_lt (Array.getElem?_eq_some_iff.1 HR.out.blk).1)⟩⟩
            · rw [hdd]
              exact ⟨hR.blk, by have := hR.len; simp; omega, fun j hj => by
                have hj' : j < xs.length := by simp at hj; omega
                rw [List.getElem_take]; exact hR.row j hj'⟩
            · rw [hdd]; simp; omega
          case round =>
            obtain ⟨kk, jp, ck, rfl, rfl, hle, hkk, HC⟩ := hrel
            by_cases hlt2 : kp + 1 + (jp + 1) < xs.length
            · have hj1 : 0 ≤ (jp : Int) + 1 := by omega
              have hj2 : (jp : Int) + 1 < ((xs.length - (kp + 1) : Nat) : Int) := by omega
              have hj3 : (jp : Int) < ((xs.length - (kp + 1) : Nat) : Int) := by omega
              have hj4 : ((jp : Int) + 1).toNat = jp + 1 := by omega
              have hj5 : IntKind.i64.wrap (jp : Int) = jp := IntWalk.i64_in _ (by omega)
              have hj6 : (kk : Int) < (xs.length : Int) := by omega
              have eg := enters_of Try.func46 (by kernel_rfl) rfl
              have hsz := HC.out.size
              have hcm : wr.cell? ⟨g, kp + 1 + (jp + 1), none⟩ = some cur[kp + 1 + (jp + 1)]! := by rw [HC.out.rows.cell _ (by have := HL.out; omega), HC.out.rest _ (by omega)]
              have hcp : wr.cell? ⟨g, kp + 1 + jp, none⟩ = some cur[kp + 1 + jp]! := by rw [HC.out.rows.cell _ (by have := HL.out; omega), HC.out.rest _ (by omega)]
              have hck := HC.out.rows.cell kk (by have := HL.out; omega)
              have hfk := HC.out.rows.frozen kk
              have HM := Aside0.mk (Kd.FK_step (HR.out.row (kp + 1 + (jp + 1)) hlt2) (fun k hk hl => HC.out.keep.2 k hl hk.2 (by simp)))
              have HP := Aside0.mk (Kd.FK_step (HR.out.row (kp + 1 + jp) (by omega)) (fun k hk hl => HC.out.keep.2 k hl hk.2 (by simp)))
              have HS2 := Aside0.mk (Pl.dd_take_succ xs (kp + 1 + (jp + 1)) (by omega) hlt2)
              clear hsz
              obtain ⟨u, hu⟩ : ∃ u, u = cur[kp + 1 + (jp + 1)]! := ⟨_, rfl⟩
              rw [← hu] at hcm HM
              obtain ⟨A, c', hv, _, _⟩ := FK_open HM.out
              subst hv
              have HU := Aside0.mk hu
              clear hu
              by_cases he2 : xs[kp + 1 + (jp + 1)] = xs[kp + 1 + jp]
              · have hb := Aside0.mk (show decide (xs[kp + 1 + (jp + 1)] = xs[kp + 1 + jp]) = true from decide_eq_true he2)
                have HE3 := Aside0.mk he2
                clear he2
                go_wp2_with fail
                go_quiet ((go_at_call 46; exact Calls.quiet_of (equal_at true hb.out HM.out HP.out ⟨⟨_, rfl⟩⟩)))
                go_wp2
                go_roundw
                case measure => simp [intOf]; omega
                case rel =>
                  have hdd : Pl.dd (xs.take (kp + 1 + (jp + 1 + 1))) = Pl.dd (xs.take (kp + 1 + (jp + 1))) := by
                    rw [show kp + 1 + (jp + 1 + 1) = kp + 1 + (jp + 1) + 1 by omega, HS2.out, if_pos (by simpa using HE3.out.symm)]
                  refine ⟨kk, jp + 1, ck, rfl, by go_num, by omega, by omega, ⟨HC.out.size, fun j hj => HC.out.rest j (by omega), ?_, by rw [hdd]; exact HC.out.num, HC.out.keep.trans (KeepBut.of_below (pw_below_drewN (Below.refl _ _) _) _ _) (.inl rfl), pw_below_drewN HC.out.below _⟩⟩
                  rw [hdd]
                  exact HC.out.rows.keep (pw_below_drewN (Below.refl _ _) _)
              · have hb := Aside0.mk (show decide (xs[kp + 1 + (jp + 1)] = xs[kp + 1 + jp]) = false from decide_eq_false he2)
                have HE3 := Aside0.mk he2
                clear he2
                go_wp2_with fail
                go_quiet ((go_at_call 46; exact Calls.quiet_of (equal_at false hb.out HM.out HP.out ⟨⟨_, rfl⟩⟩)))
                go_wp2
                go_roundw
                case measure => simp [intOf]; omega
                case rel =>
                  have hdd : Pl.dd (xs.take (kp + 1 + (jp + 1 + 1))) = Pl.dd (xs.take (kp + 1 + (jp + 1))) ++ [xs[kp + 1 + (jp + 1)]] := by
                    rw [show kp + 1 + (jp + 1 + 1) = kp + 1 + (jp + 1) + 1 by omega, HS2.out, if_neg (fun e => HE3.out (by simpa using e.symm))]
                  have hd : Below wr.heap.size wr (wr.drewN nq) := pw_below_drewN (Below.refl _ _) _
                  have hr := (HC.out.rows.keep hd).push HC.out.num (by have := HC.out.size; have := HL.out; omega) (Kd.FK_below HM.out hd)
                  refine ⟨kk + 1, jp + 1, ck.setIfInBounds kk (.slice A xs[kp + 1 + (jp + 1)].length c'), by go_num, by go_num, by omega, by omega, ⟨by rw [Array.size_setIfInBounds]; exact HC.out.size, fun j hj => ?_, by rw [hdd]; exact hr, by rw [hdd, List.length_append, HC.out.num]; rfl, ?_, (pw_below_drewN HC.out.below _).setCell (Nat.le_refl _) _⟩⟩
                  · rw [get_set_ne _ _ _ _ (by omega)]; exact HC.out.rest j (by omega)
                  · exact (HC.out.keep.trans (KeepBut.of_below hd _ _) (.inl rfl)).set_ _ _
            · have hkkl : kk < xs.length := by omega
              have hkc : (kk : Int) ≤ (xs.length : Int) := by omega
              have hcl : ∀ ty, (Builtin.clear_ #[23] ty #[.slice (some ⟨g, kk, none⟩) (xs.length - kk) (c - kk)]).run Try.prog wr = .ok (.tuple #[]) (wr.setCells g kk (List.replicate (xs.length - kk) (.slice none 0 0))) :=
                fun ty => Lib.run_clear_slice wr 23 22 ty (.slice none 0 0) Try.underlying23 (fun _ => by kernel_rfl) rfl rfl g kk _ _ (by omega)
                  (fun j hj => by rw [HC.out.rows.cell (kk + j) (by have := HC.out.size; have := HL.out; omega)]; rfl) (fun j _ => HC.out.rows.frozen _)
              go_wp2
              go_ret
              obtain ⟨cur', h1, h2, h3, h4⟩ := blk_sets g 22 (List.replicate (xs.length - kk) (.slice none 0 0)) kk wr ck HC.out.rows.blk
              have hall : xs.take (kp + 1 + (jp + 1)) = xs := List.take_of_length_le (by omega)
              have hnum := HC.out.num
              have hrows := HC.out.rows
              rw [hall] at hnum hrows
              exact ⟨cur', by rw [hnum]; rfl, hrows.put h4 h1 h2 (fun j hj => h3 j (by omega)), by rw [h2, HC.out.size], HC.out.keep.trans h4 (.inl rfl), Lib.below_setCells g (Nat.le_refl _) _ _ HC.out.below⟩
        · have hb := Aside0.mk (show decide (xs[kp + 1] = xs[kp]) = false from decide_eq_false he)
          have HE2 := Aside0.mk he
          clear he
          go_wp2_with fail
          go_quiet ((go_at_call 46; exact Calls.quiet_of (equal_at false hb.out (HR1.out.row (kp + 1) hlt) (HR1.out.row kp (by omega)) ⟨⟨_, rfl⟩⟩)))
          go_wp2
          go_roundw
          case rel =>
            refine ⟨kp + 1 + 1, by omega, by omega, by go_num, ⟨HW.out.step _⟩, ⟨?_⟩⟩
            rw [HS.out, if_neg (fun e => HE2.out (by simpa using e.symm)), HE.out, List.take_succ_eq_append_getElem hlt]
          case measure => simp [intOf]; omega
      · have hdd : Aside0 (Pl.dd xs = xs) := ⟨by have := HE.out; rwa [List.take_of_length_le (by omega)] at this⟩
        go_wp2
        go_ret
        exact ⟨cur, by rw [hdd.out]; rfl, by rw [hdd.out]; exact HR.out.keep HW.out.below, rfl, KeepBut.of_below HW.out.below _ _, HW.out.below.mono (Nat.le_of_lt (Array.getElem?_eq_some_iff.1 HR.out.blk).1)⟩
end Go.Proofs.Ytlinhcgggfdlpaa.G
