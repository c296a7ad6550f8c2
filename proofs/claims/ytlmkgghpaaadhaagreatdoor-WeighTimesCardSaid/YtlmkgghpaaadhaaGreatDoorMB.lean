/- Several texts of this claim in one. -/
import Derived.Test.YtlmkgghpaaadhaaGreatDoorMA
import Derived.Lib.SliceRun
import Derived.Sort.Row
import Derived.Lib.SlBuf
import Derived.IntWalk
import Derived.Shelf.Abstract
import Derived.Test.YtlmkgghpaaadhaaGreatDoorShelf
/- slices.CompactFunc at rows of rows, by slices.Equal, in place. -/
set_option linter.unusedVariables false
set_option linter.unusedSimpArgs false
namespace Go.Proofs.YtlmkgghpaaadhaaGreatDoor.G
open Go.RowKit Go.Proofs.YtlmkgghpaaadhaaGreatDoorW.PrintWords Go.Proofs.YtlmkgghpaaadhaaGreatDoorW.PrintLast Go.Proofs.YtlmkgghpaaadhaaGreatDoorW.PrintMore

/-- Block g holds a row of rows: its cells, and what each leads to, which lies elsewhere. -/
structure RowsAt (W : World) (B g : Nat) (cur : Array Value) (xs : List (List Int)) : Prop where
  blk : W.heap[g]? = some (.cells cur 22 (0, 0))
  len : xs.length ≤ cur.size
  row : ∀ j (h : j < xs.length), Kd.FK KL W (fun k => B ≤ k ∧ k ≠ g) xs[j] [cur[j]!]

theorem FK_open {W : World} {ok : Nat → Prop} {x : List Int} {v : Value} (h : Kd.FK KL W ok x [v]) : ∃ A c, v = .slice A x.length c ∧ x.length ≤ c ∧ Kd.C KI W A x.length x := by
  obtain ⟨A, c, e, hl, hc⟩ := Kd.FK_now h
  injection e with e
  exact ⟨A, c, e, hl, hc⟩

theorem RowsAt.cell {W : World} {B g : Nat} {cur : Array Value} {xs : List (List Int)} (h : RowsAt W B g cur xs) (j : Nat) (hj : j < cur.size) : W.cell? ⟨g, j, none⟩ = some cur[j]! := by
  rw [cell_of_row W g j cur _ _ h.blk]; simp [hj]
theorem RowsAt.frozen {W : World} {B g : Nat} {cur : Array Value} {xs : List (List Int)} (h : RowsAt W B g cur xs) (j : Nat) : W.frozen? ⟨g, j, none⟩ = false := by
  simp [World.frozen?, h.blk]
theorem RowsAt.keep {W W1 : World} {B g : Nat} {cur : Array Value} {xs : List (List Int)} (h : RowsAt W B g cur xs) (hb : Below W.heap.size W W1) : RowsAt W1 B g cur xs :=
  ⟨(hb.block g (Array.getElem?_eq_some_iff.1 h.blk).1).trans h.blk, h.len, fun j hj => Kd.FK_below (h.row j hj) hb⟩

theorem RowsAt.put {W W1 : World} {B g : Nat} {cur cur' : Array Value} {xs : List (List Int)} (h : RowsAt W B g cur xs) (hk : KeepBut W W1 g none) (hb : W1.heap[g]? = some (.cells cur' 22 (0, 0))) (hs : cur'.size = cur.size)
    (he : ∀ j, j < xs.length → cur'[j]! = cur[j]!) : RowsAt W1 B g cur' xs :=
  ⟨hb, by rw [hs]; exact h.len, fun j hj => by rw [he j hj]; exact Kd.FK_step (h.row j hj) (fun k hk' hlt => hk.2 k hlt hk'.2 (by simp))⟩
theorem blk_set1 {W : World} {g e : Nat} {cur : Array Value} (h : W.heap[g]? = some (.cells cur e (0, 0))) (i : Nat) (u : Value) : (W.setCell ⟨g, i, none⟩ u).heap[g]? = some (.cells (cur.setIfInBounds i u) e (0, 0)) := by
  simp [World.setCell, Array.getElem?_modify, h]
theorem KeepBut.set1 (W : World) (g i : Nat) (u : Value) : KeepBut W (W.setCell ⟨g, i, none⟩ u) g none := (KeepBut.refl W g none).set_ i u
theorem blk_sets (g e : Nat) : ∀ (vs : List Value) (o : Nat) (W : World) (cur : Array Value), W.heap[g]? = some (.cells cur e (0, 0)) →
    ∃ cur', (W.setCells g o vs).heap[g]? = some (.cells cur' e (0, 0)) ∧ cur'.size = cur.size ∧ (∀ j, j < o → cur'[j]! = cur[j]!) ∧ KeepBut W (W.setCells g o vs) g none
  | [], o, W, cur, h => ⟨cur, h, rfl, fun _ _ => rfl, KeepBut.refl _ _ _⟩
  | v :: vs, o, W, cur, h => by
    obtain ⟨cur', h1, h2, h3, h4⟩ := blk_sets g e vs (o + 1) (W.setCell ⟨g, o, none⟩ v) _ (blk_set1 h o v)
    refine ⟨cur', h1, by rw [h2, Array.size_setIfInBounds], fun j hj => ?_, (KeepBut.set1 W g o v).trans h4 (.inl rfl)⟩
    rw [h3 j (by omega)]
    have hne : ¬ o = j := by omega
    simp [getElem!_def, Array.getElem?_setIfInBounds, hne]

theorem get_set_ne (cur : Array Value) (i j : Nat) (v : Value) (h : i ≠ j) : (cur.setIfInBounds i v)[j]! = cur[j]! := by simp [getElem!_def, Array.getElem?_setIfInBounds, h]
theorem get_set_eq (cur : Array Value) (i : Nat) (v : Value) (h : i < cur.size) : (cur.setIfInBounds i v)[i]! = v := by simp [getElem!_def, Array.getElem?_setIfInBounds, h]
theorem RowsAt.push {W : World} {B g : Nat} {cur : Array Value} {xs : List (List Int)} {x : List Int} {v : Value} {i : Nat} (h : RowsAt W B g cur xs) (hi : xs.length = i) (hlt : i < cur.size) (hx : Kd.FK KL W (fun k => B ≤ k ∧ k ≠ g) x [v]) :
    RowsAt (W.setCell ⟨g, i, none⟩ v) B g (cur.setIfInBounds i v) (xs ++ [x]) := by
  subst hi
  have hk := KeepBut.set1 W g xs.length v
  refine ⟨blk_set1 h.blk _ _, by simp; omega, fun j hj => ?_⟩
  by_cases e : j = xs.length
  · subst e
    rw [List.getElem_append_right (Nat.le_refl _), get_set_eq _ _ _ hlt]
    simp only [Nat.sub_self, List.getElem_cons_zero]
    exact Kd.FK_step hx (fun k hk' hl => hk.2 k hl hk'.2 (by simp))
  · have hj' : j < xs.length := by simp at hj; omega
    rw [List.getElem_append_left hj', get_set_ne _ _ _ _ (by omega)]
    exact Kd.FK_step (h.row j hj') (fun k hk' hl => hk.2 k hl hk'.2 (by simp))

/-- Two rows out of it are the same, or not. -/
theorem equal_at {W W1 : World} {x y : List Int} {u v : Value} {ok ok' : Nat → Prop} (b : Bool) (hb : decide (x = y) = b) (hx : Kd.FK KL W ok x [u]) (hy : Kd.FK KL W ok' y [v]) (hd : Drawn0 W W1) :
    Calls Tryz.prog 111 #[u, v] W1 fun e w' => e = .returned (.bool b) ∧ ∃ n, w' = W1.drewN n := by
  subst hb
  obtain ⟨A, c, rfl, _, hc⟩ := FK_open hx
  obtain ⟨A', c', rfl, _, hc'⟩ := FK_open hy
  exact (slices_Equal_any A c x A' c' y W1 (Kd.C_below hc hd.below) (Kd.C_below hc' hd.below)).mono fun e w' h => ⟨h.1, h.2.out⟩

/-- Behind m = kp + 2 + jp rows: what is kept stands ahead, what is to come as it stood. -/
structure CompRel (w : World) (B g kp : Nat) (cur : Array Value) (xs : List (List Int)) (kk jp : Nat) (ck : Array Value) (W : World) : Prop where
  size : ck.size = cur.size
  rest : ∀ j, kp + 1 + jp ≤ j → ck[j]! = cur[j]!
  rows : RowsAt W B g ck (Pl.dd (xs.take (kp + 1 + (jp + 1))))
  num : (Pl.dd (xs.take (kp + 1 + (jp + 1)))).length = kk
  keep : KeepBut w W g none
  below : Below g w W

set_option maxHeartbeats 2000000 in
set_option maxRecDepth 100000 in
theorem compact_any (B g c : Nat) (cur : Array Value) (xs : List (List Int)) (w : World) (hR : RowsAt w B g cur xs) (hl : cur.size = xs.length) (hc : xs.length ≤ c) (hm : xs.length ≤ 1000000000) :
    Calls Tryz.prog 110 #[.slice (some ⟨g, 0, none⟩) xs.length c, .func (.func 111) #[] #[]] w fun e w' =>
      ∃ cur', e = .returned (.slice (some ⟨g, 0, none⟩) (Pl.dd xs).length c) ∧ RowsAt w' B g cur' (Pl.dd xs) ∧ cur'.size = cur.size ∧ KeepBut w w' g none ∧ Below g w w' := by
  by_cases h2 : xs.length < 2
  · have hdd : Pl.dd xs = xs := by
      match xs, h2 with
      | [], _ => rfl
      | [a], _ => rfl
    have HR := Aside0.mk hR
    clear hR
    go_enter Tryz.func110, Tryz.ntmps110
    go_wp2
    go_ret
    exact ⟨cur, by rw [hdd]; rfl, by rw [hdd]; exact HR.out, rfl, KeepBut.refl _ _ _, Below.refl _ _⟩
  · have HR := Aside0.mk hR
    have HL := Aside0.mk hl
    clear hR hl
    go_enter Tryz.func110, Tryz.ntmps110
    go_wp2
    go_loopw [5] (fun i wr => ∃ k : Nat, 1 ≤ k ∧ k ≤ xs.length ∧ i = .int .i64 k ∧ Aside0 (Drawn0 w wr) ∧ Aside0 (Pl.dd (xs.take k) = xs.take k)) (fun i _ => xs.length - (intOf i).toNat)
    case atStart => exact ⟨1, Nat.le_refl _, by omega, rfl, ⟨Drawn0.refl w⟩, ⟨by cases xs with | nil => simp at h2 | cons a l => rfl⟩⟩
    case round =>
      obtain ⟨k, hk0, hk, rfl, HW, HE⟩ := hrel
      by_cases hlt : k < xs.length
      · obtain ⟨kp, rfl⟩ : ∃ kp, k = kp + 1 := ⟨k - 1, by omega⟩
        have HR1 := Aside0.mk (HR.out.keep HW.out.below)
        have hx := HR1.out.cell (kp + 1) (by have := HL.out; omega)
        have hy := HR1.out.cell kp (by have := HL.out; omega)
        have HS := Aside0.mk (Pl.dd_take_succ xs (kp + 1) (by omega) hlt)
        have hi0 : 0 ≤ (kp : Int) + 1 := by omega
        have hi1 : (kp : Int) + 1 < (xs.length : Int) := by omega
        have hi2 : (kp : Int) < (xs.length : Int) := by omega
        have hi3 : ((kp : Int) + 1).toNat = kp + 1 := by omega
        have hi4 : IntKind.i64.wrap (kp : Int) = kp := IntWalk.i64_in _ (by omega)
        have eg := enters_of Tryz.func111 (by kernel_rfl) rfl
        by_cases he : xs[kp + 1] = xs[kp]
        · have hb := Aside0.mk (show decide (xs[kp + 1] = xs[kp]) = true from decide_eq_true he)
          have HE2 := Aside0.mk he
          clear he
          go_wp2_with fail
          go_quiet ((go_at_call 111; exact Calls.quiet_of (equal_at true hb.out (HR1.out.row (kp + 1) hlt) (HR1.out.row kp (by omega)) ⟨⟨_, rfl⟩⟩)))
          go_wp2
          have HK : Aside0 (Drawn0 w (wr.drewN nq)) := ⟨HW.out.step _⟩
          clear hx hy hb HR1
          generalize wr.drewN nq = wo at HK ⊢
          go_loopw [5, 7] (fun i5 i7 W => ∃ (kk jp : Nat) (ck : Array Value), i5 = .int .i64 kk ∧ i7 = .int .i64 ((jp : Int) + 1) ∧ kp + 1 + (jp + 1) ≤ xs.length ∧ kk ≤ kp + 1 + jp ∧ Aside0 (CompRel w B g kp cur xs kk jp ck W)) (fun _ i7 _ => xs.length - (intOf i7).toNat)
          case atStart =>
            have hdd : Pl.dd (xs.take (kp + 1 + 1)) = xs.take (kp + 1) := by rw [HS.out, if_pos (by simpa using HE2.out.symm), HE.out]
            have hR := HR.out.keep HK.out.below
            refine ⟨kp + 1, 0, cur, rfl, rfl, by omega, by omega, ⟨rfl, fun _ _ => rfl, ?_, ?_, KeepBut.of_below HK.out.below _ _, HK.out.below.mono (Nat.le_of_lt (Array.getElem?_eq_some_iff.1 HR.out.blk).1)⟩⟩
            · rw [hdd]
              exact ⟨hR.blk, by have := hR.len; simp; omega, fun j hj => by
                have hj' : j < xs.length := by simp at hj; omega
                rw [List.getElem_take]; exact hR.row j hj'⟩
            · rw [hdd]; simp; omega
          case round =>
            obtain ⟨kk, jp, ck, rfl, rfl, hle, hkk, HC⟩ := hrel
            by_cases hlt2 : kp + 1 + (jp + 1) < xs.length
            · have hj1 : 0 ≤ (jp : Int) + 1 := by omega
              have hj2 : (jp : Int) + 1 < ((xs.length - (kp + 1) : Nat) : Int) := by omega
              have hj3 : (jp : Int) < ((xs.length - (kp + 1) : Nat) : Int) := by omega
              have hj4 : ((jp : Int) + 1).toNat = jp + 1 := by omega
              have hj5 : IntKind.i64.wrap (jp : Int) = jp := IntWalk.i64_in _ (by omega)
              have hj6 : (kk : Int) < (xs.length : Int) := by omega
              have eg := enters_of Tryz.func111 (by kernel_rfl) rfl
              have hsz := HC.out.size
              have hcm : wr.cell? ⟨g, kp + 1 + (jp + 1), none⟩ = some cur[kp + 1 + (jp + 1)]! := by rw [HC.out.rows.cell _ (by have := HL.out; omega), HC.out.rest _ (by omega)]
              have hcp : wr.cell? ⟨g, kp + 1 + jp, none⟩ = some cur[kp + 1 + jp]! := by rw [HC.out.rows.cell _ (by have := HL.out; omega), HC.out.rest _ (by omega)]
              have hck := HC.out.rows.cell kk (by have := HL.out; omega)
              have hfk := HC.out.rows.frozen kk
              have HM := Aside0.mk (Kd.FK_step (HR.out.row (kp + 1 + (jp + 1)) hlt2) (fun k hk hl => HC.out.keep.2 k hl hk.2 (by simp)))
              have HP := Aside0.mk (Kd.FK_step (HR.out.row (kp + 1 + jp) (by omega)) (fun k hk hl => HC.out.keep.2 k hl hk.2 (by simp)))
              have HS2 := Aside0.mk (Pl.dd_take_succ xs (kp + 1 + (jp + 1)) (by omega) hlt2)
              clear hsz
              obtain ⟨u, hu⟩ : ∃ u, u = cur[kp + 1 + (jp + 1)]! := ⟨_, rfl⟩
              rw [← hu] at hcm HM
              obtain ⟨A, c', hv, _, _⟩ := FK_open HM.out
              subst hv
              have HU := Aside0.mk hu
              clear hu
              by_cases he2 : xs[kp + 1 + (jp + 1)] = xs[kp + 1 + jp]
              · have hb := Aside0.mk (show decide (xs[kp + 1 + (jp + 1)] = xs[kp + 1 + jp]) = true from decide_eq_true he2)
                have HE3 := Aside0.mk he2
                clear he2
                go_wp2_with fail
                go_quiet ((go_at_call 111; exact Calls.quiet_of (equal_at true hb.out HM.out HP.out ⟨⟨_, rfl⟩⟩)))
                go_wp2
                go_roundw
                case measure => simp [intOf]; omega
                case rel =>
                  have hdd : Pl.dd (xs.take (kp + 1 + (jp + 1 + 1))) = Pl.dd (xs.take (kp + 1 + (jp + 1))) := by
                    rw [show kp + 1 + (jp + 1 + 1) = kp + 1 + (jp + 1) + 1 by omega, HS2.out, if_pos (by simpa using HE3.out.symm)]
                  refine ⟨kk, jp + 1, ck, rfl, by go_num, by omega, by omega, ⟨HC.out.size, fun j hj => HC.out.rest j (by omega), ?_, by rw [hdd]; exact HC.out.num, HC.out.keep.trans (KeepBut.of_below (pw_below_drewN (Below.refl _ _) _) _ _) (.inl rfl), pw_below_drewN HC.out.below _⟩⟩
                  rw [hdd]
                  exact HC.out.rows.keep (pw_below_drewN (Below.refl _ _) _)
              · have hb := Aside0.mk (show decide (xs[kp + 1 + (jp + 1)] = xs[kp + 1 + jp]) = false from decide_eq_false he2)
                have HE3 := Aside0.mk he2
                clear he2
                go_wp2_with fail
                go_quiet ((go_at_call 111; exact Calls.quiet_of (equal_at false hb.out HM.out HP.out ⟨⟨_, rfl⟩⟩)))
                go_wp2
                go_roundw
                case measure => simp [intOf]; omega
                case rel =>
                  have hdd : Pl.dd (xs.take (kp + 1 + (jp + 1 + 1))) = Pl.dd (xs.take (kp + 1 + (jp + 1))) ++ [xs[kp + 1 + (jp + 1)]] := by
                    rw [show kp + 1 + (jp + 1 + 1) = kp + 1 + (jp + 1) + 1 by omega, HS2.out, if_neg (fun e => HE3.out (by simpa using e.symm))]
                  have hd : Below wr.heap.size wr (wr.drewN nq) := pw_below_drewN (Below.refl _ _) _
                  have hr := (HC.out.rows.keep hd).push HC.out.num (by have := HC.out.size; have := HL.out; omega) (Kd.FK_below HM.out hd)
                  refine ⟨kk + 1, jp + 1, ck.setIfInBounds kk (.slice A xs[kp + 1 + (jp + 1)].length c'), by go_num, by go_num, by omega, by omega, ⟨by rw [Array.size_setIfInBounds]; exact HC.out.size, fun j hj => ?_, by rw [hdd]; exact hr, by rw [hdd, List.length_append, HC.out.num]; rfl, ?_, (pw_below_drewN HC.out.below _).setCell (Nat.le_refl _) _⟩⟩
                  · rw [get_set_ne _ _ _ _ (by omega)]; exact HC.out.rest j (by omega)
                  · exact (HC.out.keep.trans (KeepBut.of_below hd _ _) (.inl rfl)).set_ _ _
            · have hkkl : kk < xs.length := by omega
              have hkc : (kk : Int) ≤ (xs.length : Int) := by omega
              have hcl : ∀ ty, (Builtin.clear_ #[23] ty #[.slice (some ⟨g, kk, none⟩) (xs.length - kk) (c - kk)]).run Tryz.prog wr = .ok (.tuple #[]) (wr.setCells g kk (List.replicate (xs.length - kk) (.slice none 0 0))) :=
                fun ty => Lib.run_clear_slice wr 23 22 ty (.slice none 0 0) Tryz.underlying23 (fun _ => by kernel_rfl) rfl rfl g kk _ _ (by omega)
                  (fun j hj => by rw [HC.out.rows.cell (kk + j) (by have := HC.out.size; have := HL.out; omega)]; rfl) (fun j _ => HC.out.rows.frozen _)
              go_wp2
              go_ret
              obtain ⟨cur', h1, h2, h3, h4⟩ := blk_sets g 22 (List.replicate (xs.length - kk) (.slice none 0 0)) kk wr ck HC.out.rows.blk
              have hall : xs.take (kp + 1 + (jp + 1)) = xs := List.take_of_length_le (by omega)
              have hnum := HC.out.num
              have hrows := HC.out.rows
              rw [hall] at hnum hrows
              exact ⟨cur', by rw [hnum]; rfl, hrows.put h4 h1 h2 (fun j hj => h3 j (by omega)), by rw [h2, HC.out.size], HC.out.keep.trans h4 (.inl rfl), Lib.below_setCells g (Nat.le_refl _) _ _ HC.out.below⟩
        · have hb := Aside0.mk (show decide (xs[kp + 1] = xs[kp]) = false from decide_eq_false he)
          have HE2 := Aside0.mk he
          clear he
          go_wp2_with fail
          go_quiet ((go_at_call 111; exact Calls.quiet_of (equal_at false hb.out (HR1.out.row (kp + 1) hlt) (HR1.out.row kp (by omega)) ⟨⟨_, rfl⟩⟩)))
          go_wp2
          go_roundw
          case rel =>
            refine ⟨kp + 1 + 1, by omega, by omega, by go_num, ⟨HW.out.step _⟩, ⟨?_⟩⟩
            rw [HS.out, if_neg (fun e => HE2.out (by simpa using e.symm)), HE.out, List.take_succ_eq_append_getElem hlt]
          case measure => simp [intOf]; omega
      · have hdd : Aside0 (Pl.dd xs = xs) := ⟨by have := HE.out; rwa [List.take_of_length_le (by omega)] at this⟩
        go_wp2
        go_ret
        exact ⟨cur, by rw [hdd.out]; rfl, by rw [hdd.out]; exact HR.out.keep HW.out.below, rfl, KeepBut.of_below HW.out.below _ _, HW.out.below.mono (Nat.le_of_lt (Array.getElem?_eq_some_iff.1 HR.out.blk).1)⟩
end Go.Proofs.YtlmkgghpaaadhaaGreatDoor.G

/- slices.SortFunc at rows of rows, by tuple.Compare. -/
set_option linter.unusedVariables false
set_option linter.unusedSimpArgs false
namespace Go.Proofs.YtlmkgghpaaadhaaGreatDoor.G
open Go.RowKit Go.Proofs.YtlmkgghpaaadhaaGreatDoorW.PrintWords Go.Proofs.YtlmkgghpaaadhaaGreatDoorW.PrintLast Go.Proofs.YtlmkgghpaaadhaaGreatDoorW.PrintMore

/-- A row that leads elsewhere than into block g. -/
def RowOf (w : World) (B g : Nat) : Type := { p : Value × List Int // Kd.FK KL w (fun k => B ≤ k ∧ k ≠ g) p.2 [p.1] }
def RowOf.enc {w : World} {B g : Nat} (x : RowOf w B g) : Value := x.1.1
def RowOf.of {w : World} {B g : Nat} (v : Value) (l : List Int) (h : Kd.FK KL w (fun k => B ≤ k ∧ k ≠ g) l [v]) : RowOf w B g := ⟨(v, l), h⟩
def RowOf.l {w : World} {B g : Nat} (x : RowOf w B g) : List Int := x.1.2
theorem FK_nil (w : World) (ok : Nat → Prop) : Kd.FK KL w ok [] [.slice none 0 0] := fun _ _ => ⟨none, 0, rfl, Nat.le_refl _, rfl, by simp, fun h => absurd h (by simp)⟩
instance (w : World) (B g : Nat) : Inhabited (RowOf w B g) := ⟨⟨(.slice none 0 0, []), FK_nil _ _⟩⟩
theorem RowOf.one (w : World) (B g : Nat) : OneCell (RowOf.enc (w := w) (B := B) (g := g)) := fun x => by
  obtain ⟨A, c, e, _⟩ := FK_open x.2
  unfold RowOf.enc
  rw [e]; rfl
def cmpR {w : World} {B g : Nat} (x y : RowOf w B g) : Int := Pl.cmp x.l y.l
theorem ltR {w : World} {B g : Nat} (x y : RowOf w B g) : ltOf cmpR x y = decide (Pl.lt x.l y.l) := by
  unfold ltOf cmpR
  rw [decide_eq_decide, Pl.cmp_neg]
theorem swoR (w : World) (B g : Nat) : Go.Sort.SWO (ltOf (cmpR (w := w) (B := B) (g := g))) where
  irrefl x := by rw [ltR]; exact decide_eq_false (Pl.lt_irrefl _)
  trans x y z h1 h2 := by
    rw [ltR] at *
    exact decide_eq_true (Pl.lt_trans (of_decide_eq_true h1) (of_decide_eq_true h2))
  ntrans x y z h1 h2 := by
    rw [ltR] at *
    have h1 := of_decide_eq_false h1
    have h2 := of_decide_eq_false h2
    refine decide_eq_false fun h => ?_
    rcases Pl.lt_total x.l y.l with e | e | e
    · exact h1 e
    · rw [e] at h; exact h2 h
    · exact h2 (Pl.lt_trans e h)

/-- What the sort leaves of the world. -/
theorem sortWorld_keep {α : Type} [Inhabited α] (enc : α → Value) (w : World) (g m : Nat) (d : Array α) (os : Array Obj) (k : Nat) (hk : k ≠ g) (hl : k < w.heap.size) : (sortWorld enc w g 0 m d os).heap[k]? = w.heap[k]? := by
  unfold sortWorld
  rw [Go.Sort.heap_grow_old _ _ (by simpa [Go.Sort.putRow, Go.Sort.mapBlock] using hl)]
  simp only [Go.Sort.putRow, Go.Sort.mapBlock, Go.Sort.heap_ahead, Array.getElem?_modify]
  rw [if_neg (Ne.symm hk)]
theorem sortWorld_blk {α : Type} [Inhabited α] (enc : α → Value) (w : World) (g m e : Nat) (cur : Array Value) (d : Array α) (os : Array Obj) (h : w.heap[g]? = some (.cells cur e (0, 0))) : (sortWorld enc w g 0 m d os).heap[g]? = some (.cells (Go.Sort.putCells enc 0 d cur) e (0, 0)) := by
  have hl : g < w.heap.size := (Array.getElem?_eq_some_iff.1 h).1
  unfold sortWorld
  rw [Go.Sort.heap_grow_old _ _ (by simpa [Go.Sort.putRow, Go.Sort.mapBlock] using hl)]
  simp only [Go.Sort.putRow, Go.Sort.mapBlock, Go.Sort.heap_ahead, Array.getElem?_modify, if_true, h]
  rfl
theorem sortWorld_size {α : Type} [Inhabited α] (enc : α → Value) (w : World) (g m : Nat) (d : Array α) (os : Array Obj) : w.heap.size ≤ (sortWorld enc w g 0 m d os).heap.size := by
  simp [sortWorld, Go.Sort.putRow, Go.Sort.mapBlock]

set_option maxHeartbeats 1000000 in
/-- slices.SortFunc by tuple.Compare: the same rows, none behind one that is less. -/
theorem sort_any (B g c : Nat) (cur : Array Value) (xs : List (List Int)) (w : World) (hR : RowsAt w B g cur xs) (hl : cur.size = xs.length) (hm : xs.length ≤ 1000000000) :
    Calls Tryz.prog 109 #[.slice (some ⟨g, 0, none⟩) xs.length c, .func (.func 83) #[] #[]] w fun e w' =>
      e = .returned (.tuple #[]) ∧ ∃ cur' ys, RowsAt w' B g cur' ys ∧ cur'.size = cur.size ∧ KeepBut w w' g none ∧ Below g w w' ∧ ys.Perm xs ∧ ys.Pairwise fun a b => ¬ Pl.lt b a := by
  let d : Array (RowOf w B g) := Array.ofFn fun i : Fin xs.length => RowOf.of cur[i.1]! xs[i.1] (hR.row i.1 i.2)
  have hd : d.size = xs.length := by simp [d]
  have hdj : ∀ j (h : j < xs.length), (d[j]!).1 = (cur[j]!, xs[j]) := fun j h => by
    have : d[j]! = d[j]'(by rw [hd]; exact h) := getElem!_pos d j (by rw [hd]; exact h)
    rw [this]; simp only [d, Array.getElem_ofFn]; rfl
  have eg := enters_of Tryz.func83 (by kernel_rfl) rfl
  have hg : g < w.heap.size := (Array.getElem?_eq_some_iff.1 hR.blk).1
  have hcmp : CmpLays1 Tryz.prog 83 #[] RowOf.enc (cmpR (w := w) (B := B) (g := g)) g 0 d.size w := by
    intro m os dk _ x y
    have hx := Kd.FK_step x.2 (W1 := sortWorld RowOf.enc w g 0 m dk os) (fun k hk hlt => sortWorld_keep _ w g m dk os k hk.2 hlt)
    have hy := Kd.FK_step y.2 (W1 := sortWorld RowOf.enc w g 0 m dk os) (fun k hk hlt => sortWorld_keep _ w g m dk os k hk.2 hlt)
    obtain ⟨A, cc, ex, _, hcx⟩ := FK_open hx
    obtain ⟨A', cc', ey, _, hcy⟩ := FK_open hy
    have ex' : x.enc = .slice A x.l.length cc := ex
    have ey' : y.enc = .slice A' y.l.length cc' := ey
    rw [ex', ey']
    exact (tuple_Compare_any A cc x.l A' cc' y.l _ hcx hcy).mono fun e w' h => ⟨h.1, by
      obtain ⟨n, hn⟩ := h.2.out
      exact ⟨n, #[], by rw [hn, Go.Sort.grow_empty]⟩⟩
  have hH : Go.Sort.Holds RowOf.enc w g 0 d := fun j hj => by
    rw [hd] at hj
    rw [Nat.zero_add]
    refine ⟨?_, hR.frozen j⟩
    rw [hR.cell j (by omega)]
    unfold RowOf.enc
    rw [hdj j hj]
  have h := Tryz.slices_SortFunc RowOf.enc (RowOf.one w B g) cmpR (swoR w B g) 83 #[] g 0 c d w eg hcmp hH hg (by rw [hd]; omega)
  rw [hd] at h
  refine h.mono fun e w' ⟨he, d', n, os, hp, hs, hw⟩ => ⟨he, Go.Sort.putCells RowOf.enc 0 d' cur, d'.toList.map RowOf.l, ?_, ?_, ?_, ?_, ?_, ?_⟩
  · subst hw
    have hd' : d'.size = xs.length := by rw [hp.1, hd]
    refine ⟨sortWorld_blk _ w g n _ cur d' os hR.blk, by simp [Go.Sort.putCells, hd', hl], fun j hj => ?_⟩
    have hj' : j < d'.size := by simpa using hj
    have hc : (Go.Sort.putCells RowOf.enc 0 d' cur)[j]! = (d'[j]).enc := by
      simp [Go.Sort.putCells, getElem!_def, Array.getElem?_mapIdx, hj', show j < cur.size by omega]
    rw [hc]
    simp only [List.getElem_map, Array.getElem_toList]
    exact Kd.FK_step (d'[j]).2 (fun k hk hlt => sortWorld_keep _ w g n d' os k hk.2 hlt)
  · simp [Go.Sort.putCells]
  · subst hw
    exact ⟨sortWorld_size _ _ _ _ _ _, fun i hi hig _ => sortWorld_keep _ w g n d' os i hig hi⟩
  · subst hw
    exact ⟨rfl, rfl, rfl, sortWorld_size _ _ _ _ _ _, fun i hi => sortWorld_keep _ w g n d' os i (by omega) (by omega)⟩
  · have hperm := hp.2.2
    have hd' : d'.size = xs.length := by rw [hp.1, hd]
    have e1 : d'.extract 0 xs.length = d' := by rw [← hd']; simp
    have e2 : d.extract 0 xs.length = d := by rw [← hd]; simp
    rw [e1, e2] at hperm
    have h2 := hperm.map RowOf.l
    have e3 : d.toList.map RowOf.l = xs := by
      apply List.ext_getElem
      · simp [hd]
      · intro i h1 h2
        simp only [d, List.getElem_map, Array.getElem_toList, Array.getElem_ofFn]; rfl
    rwa [e3] at h2
  · have hd' : d'.size = xs.length := by rw [hp.1, hd]
    rw [List.pairwise_map, List.pairwise_iff_getElem]
    intro i j hi hj hij
    have h3 := hs i j (Nat.zero_le _) hij (by simp at hj; omega)
    rw [ltR] at h3
    have h4 := of_decide_eq_false h3
    simp only [Array.length_toList] at hi hj
    rw [getElem!_pos d' i hi, getElem!_pos d' j hj] at h4
    simpa using h4
end Go.Proofs.YtlmkgghpaaadhaaGreatDoor.G

/- tuple.Sort: rows in their order, each once. -/
set_option linter.unusedVariables false
set_option linter.unusedSimpArgs false
namespace Go.Proofs.YtlmkgghpaaadhaaGreatDoor.G
open Go.RowKit Go.Proofs.YtlmkgghpaaadhaaGreatDoorW.PrintWords Go.Proofs.YtlmkgghpaaadhaaGreatDoorW.PrintLast Go.Proofs.YtlmkgghpaaadhaaGreatDoorW.PrintMore

theorem R_FK {w1 : World} {B base g : Nat} {v : Value} {x : List Int} (h : Kd.R KI 3 w1 base AnyB v x) (hg : g < base) (hB : B ≤ base) : Kd.FK KL w1 (fun k => B ≤ k ∧ k ≠ g) x [v] :=
  Kd.FK_of_M (base := base) ⟨v, rfl, Kd.R_mono (Kd.R_bound h) (fun k hk => by have := hk.2.1; omega)⟩

/-- Rows in a block of the call's own, as the printed contracts tell them. -/
theorem RowsAt_N {W : World} {B g : Nat} {cur : Array Value} {xs : List (List Int)} (h : RowsAt W B g cur xs) (hB : B ≤ g) (hm : cur.size ≤ maxLen) : Kd.N KL 22 W B (fun k => B ≤ k) (.slice (some ⟨g, 0, none⟩) xs.length cur.size) xs := by
  have hlen := h.len
  have hl1 : (cur.toList.take xs.length).length = xs.length := by simp [hlen]
  have hl2 : ((cur.toList.take xs.length).map fun v => [v]).length = xs.length := by rw [List.length_map, hl1]
  have hat : ∀ j, j < xs.length → (cur.toList.take xs.length)[j]? = some cur[j]! := fun j hj => by
    have hjc : j < cur.size := Nat.lt_of_lt_of_le hj hlen
    rw [List.getElem?_take_of_lt hj]; simp [hjc]
  refine ⟨fun k hk => by simp [Value.ownBlock] at hk; omega, (cur.toList.take xs.length).map fun v => [v], hl2, ⟨fun k hk => hk.symm, cur.toList.take xs.length, ⟨?_, .inr ⟨g, cur.size, cur, ?_, hB, h.blk, ?_, hm, ?_, ?_⟩⟩, ⟨?_, fun j p hj => ?_⟩⟩, fun j x c hx hc => ?_⟩
  · rw [hl1, hl2]; exact (Nat.mul_one _).symm
  · rw [hl2]
  · rw [hl2]; exact hlen
  · exact (Nat.mul_one _).symm
  · rw [hl2]; show cur.toList.take (xs.length * 1) = _; rw [Nat.mul_one]
  · rw [hl1, hl2]; exact (Nat.mul_one _).symm
  · have hjl : j < xs.length := by have := (List.getElem?_eq_some_iff.1 hj).1; rwa [hl2] at this
    have hp : p = [cur[j]!] := by
      rw [List.getElem?_map, hat j hjl] at hj
      injection hj with hj
      exact hj.symm
    subst hp
    have hd : ((cur.toList.take xs.length).drop (j * 1)).take 1 = [cur[j]!] := by
      rw [Nat.mul_one, List.take_one, List.head?_drop, hat j hjl]; rfl
    refine ⟨hd, congrArg List.length hd, fun u hu => ?_⟩
    have hu' : u ∈ [cur[j]!] := hd ▸ hu
    rw [List.mem_singleton.1 hu']
    obtain ⟨A, c, e, _⟩ := FK_open (h.row j hjl)
    rw [e]; rfl
  · obtain ⟨hjl, rfl⟩ := List.getElem?_eq_some_iff.1 hx
    have hc' : c = [cur[j]!] := by
      rw [List.getElem?_map, hat j hjl] at hc
      injection hc with hc
      exact hc.symm
    subst hc'
    exact Kd.FK_mono (h.row j hjl) (fun k hk => ⟨hk.1, by simp [Value.ownBlock]; exact hk.2⟩)

set_option maxHeartbeats 2000000 in
set_option maxRecDepth 100000 in
theorem tuple_Sort_any (A0 : Option Addr) (c0 : Nat) (l0 : List (List Int)) (w : World) (hr0 : Kd.C KL w A0 l0.length l0) (hm : l0.length ≤ 1000000000) (hi : ∀ x ∈ l0, x.length < 17592186044416) :
    Calls Tryz.prog 93 #[.slice A0 l0.length c0] w fun e w' => ∃ v, e = .returned v ∧ Kd.N KL 22 w' w.heap.size (fun k => w.heap.size ≤ k) v (Pl.sortU l0) ∧ Below w.heap.size w w' := by
  have HR0 := Aside0.mk hr0
  have hmk := fun W => run_make_row' (P := Tryz.prog) 23 22 (.slice none 0 0) 24 Tryz.underlying23 infoInts rfl .i64 .i64 l0.length (by omega) (by omega) W
  clear hr0
  go_enter Tryz.func93, Tryz.ntmps93
  go_wp2
  have HMK := Aside0.mk hmk
  clear hmk
  have hb0 : Below w.heap.size w (w.alloc (.cells (madeCells #[.slice none 0 0] l0.length) 22)) := below_alloc (Below.refl _ _) _
  have hB0 : RowsAt (w.alloc (.cells (madeCells #[.slice none 0 0] l0.length) 22)) w.heap.size w.heap.size (madeCells #[.slice none 0 0] l0.length) [] := ⟨heap_alloc_new w _, by simp, fun j hj => by simp at hj⟩
  have HB0 := Aside0.mk hB0
  have HBL0 := Aside0.mk hb0
  have HSZ := Aside0.mk (show (madeCells #[.slice none 0 0] l0.length).size = l0.length by simp [madeCells])
  clear hB0 hb0
  go_loopw [11] (fun i W => ∃ (k : Nat) (cur : Array Value), k ≤ l0.length ∧ i = .int .i64 k ∧ Aside0 (cur.size = l0.length) ∧ Aside0 (RowsAt W w.heap.size w.heap.size cur (l0.take k)) ∧ Aside0 (Below w.heap.size w W)) (fun i _ => l0.length - (intOf i).toNat)
  case atStart => exact ⟨0, _, Nat.zero_le _, rfl, HSZ, ⟨by rw [List.take_zero]; exact HB0.out⟩, HBL0⟩
  case round =>
    obtain ⟨k, cur, hk, rfl, HS, HR, HB⟩ := hrel
    by_cases hlt : k < l0.length
    · obtain ⟨ad, Bx, cx, rfl, hx, _, hcx⟩ := at_row HR0.out HB.out k hlt
      have HCX := Aside0.mk hcx
      clear hcx
      have hxl : (l0.getD k []).length < 17592186044416 := by
        refine hi _ ?_
        rw [List.getD_eq_getElem?_getD, List.getElem?_eq_getElem hlt]; exact List.getElem_mem hlt
      have hgx : w.heap.size < wr.heap.size := (Array.getElem?_eq_some_iff.1 HR.out.blk).1
      obtain ⟨x, hxe⟩ : ∃ x, x = l0.getD k [] := ⟨_, rfl⟩
      rw [← hxe] at hx HCX hxl
      have HXE := Aside0.mk hxe
      clear hxe
      have hkl : (k : Int) < (l0.length : Int) := by omega
      go_wp2_with (go_at_call 53; refine (slices_Clone_any _ _ x _ HCX.out hxl).mono ?_; rintro e w1 ⟨v, rfl, hv, hb⟩; obtain ⟨A1, c1, rfl, _, _⟩ := Kd.R_reads hv; have HV := Aside0.mk hv; have HBB := Aside0.mk hb; have hcell := (HR.out.keep hb).cell k (by have := HS.out; omega); have hfr := (HR.out.keep hb).frozen k; clear hv hb)
      go_roundw
      case measure => simp [intOf]; omega
      case rel =>
        have hrow := (HR.out.keep HBB.out).push (i := k) (by simp; omega) (by have := HS.out; omega) (R_FK HV.out hgx (Nat.le_of_lt hgx))
        have ht : l0.take (k + 1) = l0.take k ++ [x] := by rw [List.take_succ_eq_append_getElem hlt, HXE.out, List.getD_eq_getElem?_getD, List.getElem?_eq_getElem hlt]; rfl
        refine ⟨k + 1, cur.setIfInBounds k (.slice A1 x.length c1), by omega, by go_num, ⟨by rw [Array.size_setIfInBounds]; exact HS.out⟩, ⟨by rw [ht]; exact hrow⟩, ⟨?_⟩⟩
        exact (below_then HB.out HB.out.size HBB.out).setCell (Nat.le_refl _) _
    · have hke : k = l0.length := by omega
      subst hke
      rw [List.take_length] at HR
      have hsort := sort_any w.heap.size w.heap.size l0.length cur l0 wr HR.out HS.out hm
      go_wp2_with (first
        | (go_at_call 109; refine hsort.mono ?_; rintro e w1 ⟨rfl, cur1, ys, hR1, hs1, hk1, hb1, hp1, hu1⟩; have hl1 := hp1.length_eq; have hcomp := compact_any w.heap.size w.heap.size l0.length cur1 ys w1 hR1 (by rw [hs1, HS.out, hl1]) (by omega) (by omega); rw [hl1] at hcomp; have HK1 := Aside0.mk hb1; have HS1 := Aside0.mk hs1; have HDD := Aside0.mk (Pl.dd_sorted (l := l0) hu1 (fun x => hp1.mem_iff)); clear hR1 hs1 hk1 hb1 hp1 hu1 hl1)
        | (go_at_call 110; refine hcomp.mono ?_; rintro e w2 ⟨cur2, rfl, hR2, hs2, hk2, hb2⟩; have HR2 := Aside0.mk hR2; have HS2 := Aside0.mk hs2; have HK2 := Aside0.mk hb2; clear hR2 hs2 hk2 hb2 hcomp))
      go_ret
      have hsz : cur2.size = l0.length := by rw [HS2.out, HS1.out, HS.out]
      refine ⟨_, rfl, ?_, ?_⟩
      · have hN := RowsAt_N HR2.out (Nat.le_refl _) (by rw [hsz]; unfold maxLen; omega)
        rw [hsz, HDD.out] at hN
        rw [HDD.out]; exact hN
      · exact (HB.out.trans HK1.out).trans HK2.out
end Go.Proofs.YtlmkgghpaaadhaaGreatDoor.G
