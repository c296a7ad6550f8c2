/- Proved: for every input the law arboristlaw02.RelUnions returns true and its arguments read as they did. No condition. -/
import Derived.Test.YtlinhcgggfdlpaaRows
import Derived.Test.YtlinhcgggfdlpaaBox
import Derived.Test.YtlinhcgggfdlpaaDocs
import Derived.Deep.Matrix
import Derived.ProofKit
import Derived.OpenShut
import Derived.WalkKit
import Derived.ShutString
import Derived.ChangeOld
import Derived.Below
set_option linter.unusedVariables false
set_option linter.unusedSimpArgs false
namespace Go.Proofs.Ytlinhcgggfdlpaa.G
open Go.RowKit Go.Proofs.YtlinhcgggfdlpaaW.PrintWords Go.Proofs.YtlinhcgggfdlpaaW.PrintLast Go.Proofs.YtlinhcgggfdlpaaW.PrintMore Go.Proofs.Ytlinhcgggfdlpaa.PRefs
attribute [local go_sem] min2_mn min_two

theorem N_lit0 (W : World) (base : Nat) (hb : base ≤ W.heap.size) : Kd.N KL 22 (W.alloc (.cells #[] 22)) base (fun _ => True) (.slice (some ⟨W.heap.size, 0, none⟩) 0 0) [] :=
  Kd.N_mono (RowsAt_N (W := W.alloc (.cells #[] 22)) (B := base) (g := W.heap.size) (cur := #[]) (xs := []) ⟨heap_alloc_new W _, Nat.le_refl _, fun j hj => by simp at hj⟩ hb (by simp [maxLen])) (fun _ _ => trivial)

set_option maxHeartbeats 8000000 in
set_option maxRecDepth 100000 in
theorem refunion_is {w : World} {A0 : Option Addr} {c0 : Nat} {sa : List Int} {A1 : Option Addr} {c1 : Nat} {La : List (List Int)} {A2 : Option Addr} {c2 : Nat} {sb : List Int} {A3 : Option Addr} {c3 : Nat} {Lb : List (List Int)}
    (h : RelRd w A0 c0 sa A1 c1 La) (hz : Sz sa La) (h' : RelRd w A2 c2 sb A3 c3 Lb) (hz' : Sz sb Lb) :
    Calls Try.prog 23 #[.agg #[.slice A0 sa.length c0, .slice A1 La.length c1], .agg #[.slice A2 sb.length c2, .slice A3 Lb.length c3]] w fun e w' => RelTo w w' e sa (Pl.sortU (La ++ Lb)) := by
  have HR := Aside0.mk (And.intro h h')
  have hm := hz.s
  have hm1 := hz.l
  have hm2 := hz'.l
  have hlen : (La ++ Lb).length ≤ 20000 := by rw [List.length_append]; omega
  have HF := Aside0.mk (Sort_f (La ++ Lb) 1000 1000000000 (by omega) (by omega) (fun x hx => (List.mem_append.1 hx).elim (hz.x x) (hz'.x x)) (Nat.le_trans (Nat.mul_le_mul (show (La ++ Lb).length + 1 ≤ 20001 by omega) (show 2 * 1000 + (La ++ Lb).length + 10 ≤ 22010 by omega)) (by decide)))
  have HC := Aside0.mk (Copy_f sa (by omega))
  clear h h' hlen
  obtain ⟨W0, hW0⟩ : ∃ W0, ((w.alloc (.cells #[.slice A0 sa.length c0, .slice A1 La.length c1] 25)).alloc (.cells #[.slice A2 sb.length c2, .slice A3 Lb.length c3] 25)).alloc (.cells #[.slice none 0 0, .slice none 0 0] 25) = W0 := ⟨_, rfl⟩
  have hI0 : UnInv w (.slice A0 sa.length c0) (.slice A1 La.length c1) (.slice A2 sb.length c2) (.slice A3 Lb.length c3) W0 := by rw [← hW0]; exact UnInv.start _ _ _ _ _ _ _
  have HI0 := Aside0.mk hI0
  have hsz0 : w.heap.size + 1 + 1 < W0.heap.size := by rw [← hW0]; simp
  have HZ := Aside0.mk hsz0
  clear hI0 hsz0
  go_enter Try.func23, Try.ntmps23
  go_wp2_with (fail)
  obtain ⟨r0, r1, r2, r3, _⟩ := HI0.out.all
  have HSD := Aside0.mk (UnInv.out_step HI0.out.all (below_drew (Below.refl _ _)))
  clear hW0
  go_region_held3 (fun W => W.cell? ⟨w.heap.size, 0, none⟩ = some (.slice A0 sa.length c0) ∧ W.cell? ⟨w.heap.size, 1, none⟩ = some (.slice A1 La.length c1) ∧ W.cell? ⟨w.heap.size + 1, 0, none⟩ = some (.slice A2 sb.length c2) ∧ W.cell? ⟨w.heap.size + 1, 1, none⟩ = some (.slice A3 Lb.length c3) ∧ UnInv w (.slice A0 sa.length c0) (.slice A1 La.length c1) (.slice A2 sb.length c2) (.slice A3 Lb.length c3) W)
    (first | with_reducible exact HS6A.out | with_reducible exact HS5A.out | with_reducible exact HS4A.out | with_reducible exact HS3A.out | with_reducible exact HS2A.out | with_reducible exact HSD.out | with_reducible exact UnInv.out_step (by assumption) (below_alloc (Below.refl _ _) _) | with_reducible exact UnInv.out_step (by assumption) (below_drew (Below.refl _ _)))
    (first
      | (go_at_call 51; refine (arboristref01_Copy.calls A0 c0 sa sa _ (Kd.C_below HR.out.1.row (UnInv.of (by assumption)).bel) HR.out.1.cap HC.out).mono ?_; rintro e w2 ⟨v2, rfl, hv2, hb2⟩; have hS2 := UnInv.out_step (by assumption) hb2; have HS2A := Aside0.mk hS2; obtain ⟨A5, c5, rfl, hl5, _⟩ := Kd.R_reads hv2; have HC5 := Aside0.mk hl5; have hF2 := Kd.F_bound (Kd.N_F (Kd.R_N (Kd.R_mono (Kd.R_bound hv2) (fun k hk => hk.2.1)))); first | (have HX := Aside0.mk (And.intro (below_then (below_alloc (below_drew (Below.refl W0.heap.size W0)) (.cells #[] 22)) (by simp) hb2) (Kd.N_below (N_lit0 W0.drew W0.heap.size (Nat.le_refl _)) hb2)); have HF2 := Aside0.mk (Kd.F_mono (ok' := fun k => W0.heap.size ≤ k ∧ some k ≠ (Value.slice (some ⟨W0.drew.heap.size, 0, none⟩) 0 0).ownBlock) hF2 (fun k hk => by have h1 : (W0.drew.alloc (.cells #[] 22)).heap.size ≤ k := hk.1; rw [World.size_alloc] at h1; have h3 : W0.drew.heap.size = W0.heap.size := rfl; exact ⟨by omega, fun e => by have e' := Option.some.inj (show some k = some _ from e); dsimp only at e'; omega⟩))) | (have HX := Aside0.mk (And.intro (below_then (below_drew (Below.refl W0.heap.size W0)) (Nat.le_refl _) hb2) trivial); have HF2 := Aside0.mk (Kd.F_below (Kd.F_mono (ok' := fun k => W0.heap.size ≤ k ∧ some k ≠ (Value.slice (some ⟨w2.heap.size, 0, none⟩) 0 0).ownBlock) hF2 (fun k hk => by have h1 : W0.drew.heap.size ≤ k := hk.1; have h3 : W0.drew.heap.size = W0.heap.size := rfl; have h2 := hk.2; exact ⟨by omega, fun e => by have e' := Option.some.inj (show some k = some _ from e); dsimp only at e'; omega⟩)) (below_alloc (Below.refl _ _) (.cells #[] 22)))); clear hv2 hS2 hb2 hF2 hl5)
      | (refine Kd.N_append_rows_step KL (w0 := W0) W0.heap.size (by rfl) (.tmp 8) (.tmp 10) 23 22 (.slice none 0 0) 24 rfl Try.underlying23 infoInts rfl (by decide) (by decide) _ [] La A1 _ _ (fun _ => True) (fun k => k < w.heap.size) rfl rfl (by first | exact HX.out.2 | exact N_lit0 w2 W0.heap.size HX.out.1.size) (Kd.F_below (Kd.C_F heap_KL HR.out.1.rows) (UnInv.of (by assumption)).bel) (fun k hk => ⟨trivial, fun e => by have hk' : k < w.heap.size := hk; have h1 := HZ.out; have h2 := HX.out.1.size; have h3 : W0.drew.heap.size = W0.heap.size := rfl; have e' := Option.some.inj (show some k = some _ from e); dsimp only at e'; omega⟩) (fun _ _ => trivial) (by first | exact HX.out.1 | exact below_then HX.out.1 HX.out.1.size (below_alloc (Below.refl _ _) _)) (by first | exact HX.out.1.size | (rw [World.size_alloc]; have := HX.out.1.size; omega)) (by simp; omega) ?_; intro v3 w3 hN hB hg hat; have HF3 := Aside0.mk (Kd.F_after HF2.out hg hat); have HS3A := Aside0.mk (HI0.out.step hB).all; have HN3 := Aside0.mk (And.intro hN hB); clear hN hB hg hat)
      | (refine Kd.N_append_rows_step KL (w0 := W0) W0.heap.size (by rfl) (.tmp 11) (.tmp 13) 23 22 (.slice none 0 0) 24 rfl Try.underlying23 infoInts rfl (by decide) (by decide) _ La Lb A3 _ _ (fun _ => True) (fun k => k < w.heap.size) rfl rfl HN3.out.1 (Kd.F_below (Kd.C_F heap_KL HR.out.2.rows) (UnInv.of (by assumption)).bel) (fun k hk => ⟨trivial, fun e => by have hk' : k < w.heap.size := hk; have h1 := HZ.out; have h2 := Kd.N_base HN3.out.1 k e.symm; omega⟩) (fun _ _ => trivial) HN3.out.2 HN3.out.2.size (by omega) ?_; intro v4 w4 hN hB hg hat; have HF4 := Aside0.mk (Kd.F_after HF3.out hg hat); have HS4A := Aside0.mk (HI0.out.step hB).all; obtain ⟨A6, c6, rfl, hl6, hr6⟩ := Kd.N_reads hN; have HN4 := Aside0.mk hB; have hso := arboristref01_Sort.calls 1000000000 A6 c6 (La ++ Lb) _ w4 hr6 hl6 HF.out; rw [List.length_append] at hso; clear hN hB hg hat hl6 hr6)
      | (go_at_call 45; refine hso.mono ?_; rintro e w5 ⟨v5, rfl, hv5, hb5⟩; obtain ⟨A7, c7, rfl, _, _⟩ := Kd.N_reads hv5; have HV5 := Aside0.mk (And.intro hv5 hb5); clear hv5;
         have hS5 := UnInv.out_step (by assumption) hb5; have HS5A := Aside0.mk hS5; have HI5 := Aside0.mk (UnInv.of hS5); clear hS5; have HS6A := Aside0.mk ((HI5.out.set 0 (.slice A5 sa.length c5)).set 1 (.slice A7 (Pl.sortU (La ++ Lb)).length c7)).all; obtain ⟨x, y, hx5⟩ := HI5.out.C; have p0 := blk2_c0 hx5; have p1 := blk_fr (i := 0) hx5; have hs0 := blk2_s0 hx5 (.slice A5 sa.length c5); have p2 := blk2_c1 hs0; have p3 := blk_fr (i := 1) hs0; have hs1 := blk2_s1 hs0 (.slice A7 (Pl.sortU (La ++ Lb)).length c7); have HS1 := Aside0.mk (And.intro hs1 hx5); clear hs0 hs1 hx5 hb5))
  all_goals
    have q4 := blk2_c0 HS1.out.1
    have q5 := blk2_c1 HS1.out.1
    go_wp2
    refine bodyPost_ret (v := .agg #[.slice A5 sa.length c5, .slice A7 (Pl.sortU (La ++ Lb)).length c7]) (by simp [results, Try.results23, go_sem, q4, q5]) rfl ?_
    have hg0 : w.heap.size + 1 + 1 < W0.heap.size := HZ.out
    have hF5 := Kd.F_far (Kd.F_far (Kd.F_below (Kd.F_mono (ok' := fun k => W0.heap.size ≤ k) HF4.out (fun k hk => hk.1)) HV5.out.2) (p := ⟨w.heap.size + 1 + 1, 0, none⟩) (fun k hk => by have hk' : W0.heap.size ≤ k := hk; show k ≠ w.heap.size + 1 + 1; omega) (.slice A5 sa.length c5)) (p := ⟨w.heap.size + 1 + 1, 1, none⟩) (fun k hk => by have hk' : W0.heap.size ≤ k := hk; show k ≠ w.heap.size + 1 + 1; omega) (.slice A7 (Pl.sortU (La ++ Lb)).length c7)
    have h4 := HN4.out.size
    have hN5 := Kd.N_far (Kd.N_far HV5.out.1 (p := ⟨w.heap.size + 1 + 1, 0, none⟩) (fun k hk => by have hk' : w4.heap.size ≤ k := hk; show k ≠ w.heap.size + 1 + 1; omega) (.slice A5 sa.length c5)) (p := ⟨w.heap.size + 1 + 1, 1, none⟩) (fun k hk => by have hk' : w4.heap.size ≤ k := hk; show k ≠ w.heap.size + 1 + 1; omega) (.slice A7 (Pl.sortU (La ++ Lb)).length c7)
    obtain ⟨h5, h6, h7⟩ := Kd.N_reads' hN5
    exact ⟨A5, c5, A7, c7, rfl, ⟨Kd.F_now hF5, HC5.out, h7, h6⟩, ((HI5.out.set 0 _).set 1 _).bel⟩

theorem unite_no {w : World} {A : Option Addr} {c : Nat} {sc : List Int} {A' : Option Addr} {c' : Nat} {L : List (List Int)} {B : Option Addr} {d : Nat} {sd : List Int} {B' : Option Addr} {d' : Nat} {M : List (List Int)} (h : RelRd w A c sc A' c' L) (hz : Sz sc L) (h' : RelRd w B d sd B' d' M) (hz' : Sz sd M) (hn : ¬ sc = sd) {E0 : List Int} {E1 : List (List Int)} (h0 : E0 = []) (hE1 : E1 = []) :
    Calls Try.prog 21 #[.agg #[.slice A sc.length c, .slice A' L.length c'], .agg #[.slice B sd.length d, .slice B' M.length d']] w fun e w' => RelOk w w' e E0 E1 1 := by
  subst h0 hE1
  have h1 := hz.s
  have h2 := hz.l
  have h3 := hz'.l
  refine (union_any A c sc A' c' L B d sd B' d' M w h.row h.rows h'.row h'.rows (by omega) (by omega) (by omega) (fun x hx => by have := hz.x x hx; omega) (fun x hx => by have := hz'.x x hx; omega)).mono ?_
  rintro e w' ⟨v, rfl, hv, hb⟩
  rw [unionRel, if_neg hn] at hv
  obtain ⟨A, c, A', c', rfl, h⟩ := hv.rd
  exact ⟨A, c, A', c', by rw [unionErr, if_neg hn], h, hb⟩

set_option maxHeartbeats 2000000 in
set_option maxRecDepth 100000 in
theorem relunions_walk (A0 : Option Addr) (c0 : Nat) (sch : List Int) (A1 : Option Addr) (c1 : Nat) (rows : List (List Int)) (A2 : Option Addr) (c2 : Nat) (oth : List Int) (A3 : Option Addr) (c3 : Nat) (more : List (List Int)) (w : World) (hr0 : Kd.C KI w A0 sch.length sch) (hc0 : sch.length ≤ c0) (hr1 : Kd.C KL w A1 rows.length rows) (hc1 : rows.length ≤ c1) (hr2 : Kd.C KI w A2 oth.length oth) (hc2 : oth.length ≤ c2) (hr3 : Kd.C KL w A3 more.length more) (hc3 : more.length ≤ c3) :
    Calls Try.prog 5 #[.slice A0 sch.length c0, .slice A1 rows.length c1, .slice A2 oth.length c2, .slice A3 more.length c3] w fun e w' => e = .returned (.bool true) ∧ Below w.heap.size w w' := by
  have HIN := Aside0.mk (And.intro hr0 (And.intro hr1 (And.intro hr2 hr3)))
  have hP := right_small sch rows
  have hz := sz_small sch rows
  have HF := Aside0.mk (Small_f sch rows 4000 (Nat.le_refl _))
  have hP' := right_small oth more
  have hz' := sz_small oth more
  have HF' := Aside0.mk (Small_f oth more 4000 (Nat.le_refl _))
  have hLl := smallRows_len (smallS sch).length rows
  have hMl := smallRows_len (smallS oth).length more
  generalize smallRows (smallS sch).length rows = L at *
  generalize smallS sch = SC at *
  generalize smallRows (smallS oth).length more = M at *
  generalize smallS oth = SD at *
  obtain ⟨b0, hb0⟩ : ∃ b0, decide (SC = SD ∧ L = M) = b0 := ⟨_, rfl⟩
  have HB0 := Aside0.mk hb0
  clear hb0
  clear hr0 hr1 hr2 hr3
  have hf1 := rel_field1
  by_cases hs : SC = SD
  · subst hs
    have HU : Aside0 (Pl.sortU (L ++ M) = Pl.sortU (L ++ M)) := ⟨rfl⟩
    have hzU : Sz SC (Pl.sortU (L ++ M)) := ⟨hz.s, by have := Pl.sortU_length_le (L ++ M); rw [List.length_append] at this; omega, fun x hx => (List.mem_append.1 (Pl.mem_sortU.1 hx)).elim (hz.x x) (hz'.x x)⟩
    obtain ⟨U, hU⟩ : ∃ U, Pl.sortU (L ++ M) = U := ⟨_, rfl⟩
    replace HU : Aside0 (Pl.sortU (L ++ M) = U) := ⟨hU⟩
    rw [hU] at hzU
    have HRU := Aside0.mk (fun {w : World} {A0 : Option Addr} {c0 : Nat} {A1 : Option Addr} {c1 : Nat} {A2 : Option Addr} {c2 : Nat} {A3 : Option Addr} {c3 : Nat} (h : RelRd w A0 c0 SC A1 c1 L) (h' : RelRd w A2 c2 SC A3 c3 M) => show Calls Try.prog 23 #[.agg #[.slice A0 SC.length c0, .slice A1 L.length c1], .agg #[.slice A2 SC.length c2, .slice A3 M.length c3]] w fun e w' => RelTo w w' e SC U by rw [← hU]; exact refunion_is h hz h' hz')
    clear hU
    go_enter Try.func5, Try.ntmps5
    go_wp2_with (first
      | (have hgd := HB3; clear hgd; go_at_call 21; refine (unite_is Ha3.out.rd hz Hb3.out.rd hz' HU.out).mono ?_; rintro e w4 ⟨Au, cu, Du, du, rfl, hr4, hb4⟩; have hx4 := below_box hb4 (.cells #[.slice Au SC.length cu, .slice Du U.length du] 25); have HB4 := Aside0.mk (below_then HB3.out HB3.out.size hx4); have Ha4 := Aside0.mk (Ha3.out.step hx4); have Hb4 := Aside0.mk (Hb3.out.step hx4); have Hu4 := Aside0.mk (RelBx.new hr4); have qa0_4 := blk2_c0 Ha4.out.blk; have qa1_4 := blk2_c1 Ha4.out.blk; have qb0_4 := blk2_c0 Hb4.out.blk; have qb1_4 := blk2_c1 Hb4.out.blk; have qu0_4 := blk2_c0 Hu4.out.blk; have qu1_4 := blk2_c1 Hu4.out.blk; clear hb4 hr4 hx4 Ha3 Hb3 qa0_3 qa1_3 qb0_3 qb1_3)
      | (have hgd := HB2; clear hgd; go_at_call 19; refine (small_is A2 c2 oth A3 c3 more _ (Kd.C_below HIN.out.2.2.1 HB2.out) hc2 (Kd.C_below HIN.out.2.2.2 HB2.out) hc3 HF'.out).mono ?_; rintro e w3 ⟨Ab, cb, Db, db, rfl, hr3, hb3⟩; have hx3 := below_box hb3 (.cells #[.slice Ab SC.length cb, .slice Db M.length db] 25); have HB3 := Aside0.mk (below_then HB2.out HB2.out.size hx3); have Ha3 := Aside0.mk (Ha2.out.step hx3); have Hb3 := Aside0.mk (RelBx.new hr3); have qa0_3 := blk2_c0 Ha3.out.blk; have qa1_3 := blk2_c1 Ha3.out.blk; have qb0_3 := blk2_c0 Hb3.out.blk; have qb1_3 := blk2_c1 Hb3.out.blk; clear hb3 hr3 hx3 Ha2 qa0_2 qa1_2)
      | (have hgd := HB1; clear hgd; go_at_call 19; refine (small_is A0 c0 sch A1 c1 rows _ (Kd.C_below HIN.out.1 HB1.out) hc0 (Kd.C_below HIN.out.2.1 HB1.out) hc1 HF.out).mono ?_; rintro e w2 ⟨Aa, ca, Da, da, rfl, hr2, hb2⟩; have hx2 := below_box hb2 (.cells #[.slice Aa SC.length ca, .slice Da L.length da] 25); have HB2 := Aside0.mk (below_then HB1.out HB1.out.size hx2); have Ha2 := Aside0.mk (RelBx.new hr2); have qa0_2 := blk2_c0 Ha2.out.blk; have qa1_2 := blk2_c1 Ha2.out.blk; clear hb2 hr2 hx2)
      | (go_at_call 12; refine (shown_any _).mono ?_; rintro e w1 ⟨rfl, hb1⟩; have HB1 := Aside0.mk hb1; clear hb1))
    clear qa0_4 qa1_4 qb0_4 qb1_4 qu0_4 qu1_4
    obtain ⟨I, hI⟩ : ∃ I : World → Prop, ∀ W, I W ↔ (Below w.heap.size w W ∧ RelBx W w2.heap.size Aa ca SC Da da L ∧ RelBx W w3.heap.size Ab cb SC Db db M ∧ RelBx W w4.heap.size Au cu SC Du du U) := ⟨_, fun _ => Iff.rfl⟩
    have hIst : ∀ {W W1 : World}, I W → Below W.heap.size W W1 → I W1 := fun h hb => by
      obtain ⟨h0, h1, h2, h3⟩ := (hI _).1 h
      exact (hI _).2 ⟨below_then h0 h0.size hb, h1.step hb, h2.step hb, h3.step hb⟩
    have hIal : ∀ {W : World}, I W → (W.cell? ⟨w2.heap.size, 0, none⟩ = some (.slice Aa SC.length ca) ∧ W.cell? ⟨w2.heap.size, 1, none⟩ = some (.slice Da L.length da) ∧ W.cell? ⟨w3.heap.size, 0, none⟩ = some (.slice Ab SC.length cb) ∧ W.cell? ⟨w3.heap.size, 1, none⟩ = some (.slice Db M.length db) ∧ W.cell? ⟨w4.heap.size, 0, none⟩ = some (.slice Au SC.length cu) ∧ W.cell? ⟨w4.heap.size, 1, none⟩ = some (.slice Du U.length du) ∧ I W) := fun h => by
      obtain ⟨h0, h1, h2, h3⟩ := (hI _).1 h
      exact ⟨blk2_c0 h1.blk, blk2_c1 h1.blk, blk2_c0 h2.blk, blk2_c1 h2.blk, blk2_c0 h3.blk, blk2_c1 h3.blk, h⟩
    have hIof : ∀ {W : World}, (W.cell? ⟨w2.heap.size, 0, none⟩ = some (.slice Aa SC.length ca) ∧ W.cell? ⟨w2.heap.size, 1, none⟩ = some (.slice Da L.length da) ∧ W.cell? ⟨w3.heap.size, 0, none⟩ = some (.slice Ab SC.length cb) ∧ W.cell? ⟨w3.heap.size, 1, none⟩ = some (.slice Db M.length db) ∧ W.cell? ⟨w4.heap.size, 0, none⟩ = some (.slice Au SC.length cu) ∧ W.cell? ⟨w4.heap.size, 1, none⟩ = some (.slice Du U.length du) ∧ I W) → I W := fun h => h.2.2.2.2.2.2
    have hstep : ∀ {W W1 : World}, (W.cell? ⟨w2.heap.size, 0, none⟩ = some (.slice Aa SC.length ca) ∧ W.cell? ⟨w2.heap.size, 1, none⟩ = some (.slice Da L.length da) ∧ W.cell? ⟨w3.heap.size, 0, none⟩ = some (.slice Ab SC.length cb) ∧ W.cell? ⟨w3.heap.size, 1, none⟩ = some (.slice Db M.length db) ∧ W.cell? ⟨w4.heap.size, 0, none⟩ = some (.slice Au SC.length cu) ∧ W.cell? ⟨w4.heap.size, 1, none⟩ = some (.slice Du U.length du) ∧ I W) → Below W.heap.size W W1 → (W1.cell? ⟨w2.heap.size, 0, none⟩ = some (.slice Aa SC.length ca) ∧ W1.cell? ⟨w2.heap.size, 1, none⟩ = some (.slice Da L.length da) ∧ W1.cell? ⟨w3.heap.size, 0, none⟩ = some (.slice Ab SC.length cb) ∧ W1.cell? ⟨w3.heap.size, 1, none⟩ = some (.slice Db M.length db) ∧ W1.cell? ⟨w4.heap.size, 0, none⟩ = some (.slice Au SC.length cu) ∧ W1.cell? ⟨w4.heap.size, 1, none⟩ = some (.slice Du U.length du) ∧ I W1) := fun h hb => hIal (hIst (hIof h) hb)
    have gB : ∀ {W : World}, (W.cell? ⟨w2.heap.size, 0, none⟩ = some (.slice Aa SC.length ca) ∧ W.cell? ⟨w2.heap.size, 1, none⟩ = some (.slice Da L.length da) ∧ W.cell? ⟨w3.heap.size, 0, none⟩ = some (.slice Ab SC.length cb) ∧ W.cell? ⟨w3.heap.size, 1, none⟩ = some (.slice Db M.length db) ∧ W.cell? ⟨w4.heap.size, 0, none⟩ = some (.slice Au SC.length cu) ∧ W.cell? ⟨w4.heap.size, 1, none⟩ = some (.slice Du U.length du) ∧ I W) → Below w.heap.size w W := fun h => ((hI _).1 (hIof h)).1
    have ga : ∀ {W : World}, (W.cell? ⟨w2.heap.size, 0, none⟩ = some (.slice Aa SC.length ca) ∧ W.cell? ⟨w2.heap.size, 1, none⟩ = some (.slice Da L.length da) ∧ W.cell? ⟨w3.heap.size, 0, none⟩ = some (.slice Ab SC.length cb) ∧ W.cell? ⟨w3.heap.size, 1, none⟩ = some (.slice Db M.length db) ∧ W.cell? ⟨w4.heap.size, 0, none⟩ = some (.slice Au SC.length cu) ∧ W.cell? ⟨w4.heap.size, 1, none⟩ = some (.slice Du U.length du) ∧ I W) → RelBx W w2.heap.size Aa ca SC Da da L := fun h => ((hI _).1 (hIof h)).2.1
    have gb : ∀ {W : World}, (W.cell? ⟨w2.heap.size, 0, none⟩ = some (.slice Aa SC.length ca) ∧ W.cell? ⟨w2.heap.size, 1, none⟩ = some (.slice Da L.length da) ∧ W.cell? ⟨w3.heap.size, 0, none⟩ = some (.slice Ab SC.length cb) ∧ W.cell? ⟨w3.heap.size, 1, none⟩ = some (.slice Db M.length db) ∧ W.cell? ⟨w4.heap.size, 0, none⟩ = some (.slice Au SC.length cu) ∧ W.cell? ⟨w4.heap.size, 1, none⟩ = some (.slice Du U.length du) ∧ I W) → RelBx W w3.heap.size Ab cb SC Db db M := fun h => ((hI _).1 (hIof h)).2.2.1
    have gu : ∀ {W : World}, (W.cell? ⟨w2.heap.size, 0, none⟩ = some (.slice Aa SC.length ca) ∧ W.cell? ⟨w2.heap.size, 1, none⟩ = some (.slice Da L.length da) ∧ W.cell? ⟨w3.heap.size, 0, none⟩ = some (.slice Ab SC.length cb) ∧ W.cell? ⟨w3.heap.size, 1, none⟩ = some (.slice Db M.length db) ∧ W.cell? ⟨w4.heap.size, 0, none⟩ = some (.slice Au SC.length cu) ∧ W.cell? ⟨w4.heap.size, 1, none⟩ = some (.slice Du U.length du) ∧ I W) → RelBx W w4.heap.size Au cu SC Du du U := fun h => ((hI _).1 (hIof h)).2.2.2
    replace hI := Aside0.mk @hI
    replace hIst := Aside0.mk @hIst
    replace hIal := Aside0.mk @hIal
    replace hIof := Aside0.mk @hIof
    replace hstep := Aside0.mk @hstep
    replace gB := Aside0.mk @gB
    replace ga := Aside0.mk @ga
    replace gb := Aside0.mk @gb
    replace gu := Aside0.mk @gu
    have HS0A := Aside0.mk (hIal.out ((hI.out _).2 ⟨HB4.out, Ha4.out, Hb4.out, Hu4.out⟩))
    have HSDA := Aside0.mk (hstep.out HS0A.out (below_drew (Below.refl _ _)))
    go_region_held3 (fun W => W.cell? ⟨w2.heap.size, 0, none⟩ = some (.slice Aa SC.length ca) ∧ W.cell? ⟨w2.heap.size, 1, none⟩ = some (.slice Da L.length da) ∧ W.cell? ⟨w3.heap.size, 0, none⟩ = some (.slice Ab SC.length cb) ∧ W.cell? ⟨w3.heap.size, 1, none⟩ = some (.slice Db M.length db) ∧ W.cell? ⟨w4.heap.size, 0, none⟩ = some (.slice Au SC.length cu) ∧ W.cell? ⟨w4.heap.size, 1, none⟩ = some (.slice Du U.length du) ∧ I W)
      (first | with_reducible exact HS2A.out | with_reducible exact HS1A.out | with_reducible exact HSDA.out | with_reducible exact HS0A.out | with_reducible exact HSB.out | with_reducible exact hstep.out HS2A.out (below_alloc (Below.refl _ _) _) | with_reducible exact hstep.out HS1A.out (below_alloc (Below.refl _ _) _) | with_reducible exact hstep.out (by assumption) (below_alloc (Below.refl _ _) _) | with_reducible exact hstep.out (by assumption) (below_drew (Below.refl _ _)))
      (first
        | (have hgd := HS1A; clear hgd; go_at_call 18; refine (refsame_is (ga.out (by assumption)).rd hz (gb.out (by assumption)).rd hz' b0 (by rw [← HB0.out]; simp)).mono ?_; rintro e v2 ⟨rfl, hb2⟩; have hS2 := hstep.out (by assumption) hb2; have HS2A := Aside0.mk hS2; clear hS2 hb2)
        | (go_at_call 20; refine (same_is (ga.out (by assumption)).rd hz (gb.out (by assumption)).rd b0 (by rw [← HB0.out]; simp)).mono ?_; rintro e v1 ⟨rfl, hb1⟩; have hS1 := hstep.out (by assumption) hb1; have HS1A := Aside0.mk hS1; clear hS1 hb1))
    all_goals
      have qa0 := blk2_c0 (ga.out HS2A.out).blk
      have qb0 := blk2_c0 (gb.out HS2A.out).blk
      have hsl := hz.s
      have hsl' := hz'.s
      have hbb : (b0 != b0) = false := by cases b0 <;> rfl
      obtain ⟨r0, hr0⟩ : ∃ r0 : Int, r0 = 0 := ⟨_, rfl⟩
      have HR0 := Aside0.mk (show arboristref01_Compare.f 5000 SC SC = some r0 by rw [Compare_f SC SC 5000 (by omega) (by omega) (by omega), Pl.cmp_self, hr0])
      subst hr0
      go_wp2_with (go_at_call 22; refine (arboristref01_Compare.calls 5000 Aa ca SC Ab cb SC 0 _ (ga.out HS2A.out).rd.row (ga.out HS2A.out).rd.cap (gb.out HS2A.out).rd.row (gb.out HS2A.out).rd.cap HR0.out).mono ?_; rintro e x5 ⟨rfl, hd⟩; have HB5 := Aside0.mk (below_then (gB.out HS2A.out) (gB.out HS2A.out).size hd.below); have Ha5 := Aside0.mk ((ga.out HS2A.out).step hd.below); have Hb5 := Aside0.mk ((gb.out HS2A.out).step hd.below); have Hu5 := Aside0.mk ((gu.out HS2A.out).step hd.below); have qu0 := blk2_c0 Hu5.out.blk; have qu1 := blk2_c1 Hu5.out.blk; clear hd qa0 qb0)
      clear qu0 qu1
      obtain ⟨I2, hI2⟩ : ∃ I : World → Prop, ∀ W, I W ↔ (Below w.heap.size w W ∧ RelBx W w4.heap.size Au cu SC Du du U ∧ RelBx W w2.heap.size Aa ca SC Da da L ∧ RelBx W w3.heap.size Ab cb SC Db db M) := ⟨_, fun _ => Iff.rfl⟩
      have hIst2 : ∀ {W W1 : World}, I2 W → Below W.heap.size W W1 → I2 W1 := fun h hb => by
        obtain ⟨h0, h1, h2, h3⟩ := (hI2 _).1 h
        exact (hI2 _).2 ⟨below_then h0 h0.size hb, h1.step hb, h2.step hb, h3.step hb⟩
      have hIal2 : ∀ {W : World}, I2 W → (W.cell? ⟨w4.heap.size, 0, none⟩ = some (.slice Au SC.length cu) ∧ W.cell? ⟨w4.heap.size, 1, none⟩ = some (.slice Du U.length du) ∧ W.cell? ⟨w2.heap.size, 0, none⟩ = some (.slice Aa SC.length ca) ∧ W.cell? ⟨w2.heap.size, 1, none⟩ = some (.slice Da L.length da) ∧ W.cell? ⟨w3.heap.size, 0, none⟩ = some (.slice Ab SC.length cb) ∧ W.cell? ⟨w3.heap.size, 1, none⟩ = some (.slice Db M.length db) ∧ I2 W) := fun h => by
        obtain ⟨h0, h1, h2, h3⟩ := (hI2 _).1 h
        exact ⟨blk2_c0 h1.blk, blk2_c1 h1.blk, blk2_c0 h2.blk, blk2_c1 h2.blk, blk2_c0 h3.blk, blk2_c1 h3.blk, h⟩
      have hIof2 : ∀ {W : World}, (W.cell? ⟨w4.heap.size, 0, none⟩ = some (.slice Au SC.length cu) ∧ W.cell? ⟨w4.heap.size, 1, none⟩ = some (.slice Du U.length du) ∧ W.cell? ⟨w2.heap.size, 0, none⟩ = some (.slice Aa SC.length ca) ∧ W.cell? ⟨w2.heap.size, 1, none⟩ = some (.slice Da L.length da) ∧ W.cell? ⟨w3.heap.size, 0, none⟩ = some (.slice Ab SC.length cb) ∧ W.cell? ⟨w3.heap.size, 1, none⟩ = some (.slice Db M.length db) ∧ I2 W) → I2 W := fun h => h.2.2.2.2.2.2
      have hstep2 : ∀ {W W1 : World}, (W.cell? ⟨w4.heap.size, 0, none⟩ = some (.slice Au SC.length cu) ∧ W.cell? ⟨w4.heap.size, 1, none⟩ = some (.slice Du U.length du) ∧ W.cell? ⟨w2.heap.size, 0, none⟩ = some (.slice Aa SC.length ca) ∧ W.cell? ⟨w2.heap.size, 1, none⟩ = some (.slice Da L.length da) ∧ W.cell? ⟨w3.heap.size, 0, none⟩ = some (.slice Ab SC.length cb) ∧ W.cell? ⟨w3.heap.size, 1, none⟩ = some (.slice Db M.length db) ∧ I2 W) → Below W.heap.size W W1 → (W1.cell? ⟨w4.heap.size, 0, none⟩ = some (.slice Au SC.length cu) ∧ W1.cell? ⟨w4.heap.size, 1, none⟩ = some (.slice Du U.length du) ∧ W1.cell? ⟨w2.heap.size, 0, none⟩ = some (.slice Aa SC.length ca) ∧ W1.cell? ⟨w2.heap.size, 1, none⟩ = some (.slice Da L.length da) ∧ W1.cell? ⟨w3.heap.size, 0, none⟩ = some (.slice Ab SC.length cb) ∧ W1.cell? ⟨w3.heap.size, 1, none⟩ = some (.slice Db M.length db) ∧ I2 W1) := fun h hb => hIal2 (hIst2 (hIof2 h) hb)
      have gB2 : ∀ {W : World}, (W.cell? ⟨w4.heap.size, 0, none⟩ = some (.slice Au SC.length cu) ∧ W.cell? ⟨w4.heap.size, 1, none⟩ = some (.slice Du U.length du) ∧ W.cell? ⟨w2.heap.size, 0, none⟩ = some (.slice Aa SC.length ca) ∧ W.cell? ⟨w2.heap.size, 1, none⟩ = some (.slice Da L.length da) ∧ W.cell? ⟨w3.heap.size, 0, none⟩ = some (.slice Ab SC.length cb) ∧ W.cell? ⟨w3.heap.size, 1, none⟩ = some (.slice Db M.length db) ∧ I2 W) → Below w.heap.size w W := fun h => ((hI2 _).1 (hIof2 h)).1
      have gu2 : ∀ {W : World}, (W.cell? ⟨w4.heap.size, 0, none⟩ = some (.slice Au SC.length cu) ∧ W.cell? ⟨w4.heap.size, 1, none⟩ = some (.slice Du U.length du) ∧ W.cell? ⟨w2.heap.size, 0, none⟩ = some (.slice Aa SC.length ca) ∧ W.cell? ⟨w2.heap.size, 1, none⟩ = some (.slice Da L.length da) ∧ W.cell? ⟨w3.heap.size, 0, none⟩ = some (.slice Ab SC.length cb) ∧ W.cell? ⟨w3.heap.size, 1, none⟩ = some (.slice Db M.length db) ∧ I2 W) → RelBx W w4.heap.size Au cu SC Du du U := fun h => ((hI2 _).1 (hIof2 h)).2.1
      have ga2 : ∀ {W : World}, (W.cell? ⟨w4.heap.size, 0, none⟩ = some (.slice Au SC.length cu) ∧ W.cell? ⟨w4.heap.size, 1, none⟩ = some (.slice Du U.length du) ∧ W.cell? ⟨w2.heap.size, 0, none⟩ = some (.slice Aa SC.length ca) ∧ W.cell? ⟨w2.heap.size, 1, none⟩ = some (.slice Da L.length da) ∧ W.cell? ⟨w3.heap.size, 0, none⟩ = some (.slice Ab SC.length cb) ∧ W.cell? ⟨w3.heap.size, 1, none⟩ = some (.slice Db M.length db) ∧ I2 W) → RelBx W w2.heap.size Aa ca SC Da da L := fun h => ((hI2 _).1 (hIof2 h)).2.2.1
      have gb2 : ∀ {W : World}, (W.cell? ⟨w4.heap.size, 0, none⟩ = some (.slice Au SC.length cu) ∧ W.cell? ⟨w4.heap.size, 1, none⟩ = some (.slice Du U.length du) ∧ W.cell? ⟨w2.heap.size, 0, none⟩ = some (.slice Aa SC.length ca) ∧ W.cell? ⟨w2.heap.size, 1, none⟩ = some (.slice Da L.length da) ∧ W.cell? ⟨w3.heap.size, 0, none⟩ = some (.slice Ab SC.length cb) ∧ W.cell? ⟨w3.heap.size, 1, none⟩ = some (.slice Db M.length db) ∧ I2 W) → RelBx W w3.heap.size Ab cb SC Db db M := fun h => ((hI2 _).1 (hIof2 h)).2.2.2
      replace hI2 := Aside0.mk @hI2
      replace hIst2 := Aside0.mk @hIst2
      replace hIal2 := Aside0.mk @hIal2
      replace hIof2 := Aside0.mk @hIof2
      replace hstep2 := Aside0.mk @hstep2
      replace gB2 := Aside0.mk @gB2
      replace gu2 := Aside0.mk @gu2
      replace ga2 := Aside0.mk @ga2
      replace gb2 := Aside0.mk @gb2
      have HT0A := Aside0.mk (hIal2.out ((hI2.out _).2 ⟨HB5.out, Hu5.out, Ha5.out, Hb5.out⟩))
      have HTDA := Aside0.mk (hstep2.out HT0A.out (below_drew (Below.refl _ _)))
      go_region_held3 (fun W => W.cell? ⟨w4.heap.size, 0, none⟩ = some (.slice Au SC.length cu) ∧ W.cell? ⟨w4.heap.size, 1, none⟩ = some (.slice Du U.length du) ∧ W.cell? ⟨w2.heap.size, 0, none⟩ = some (.slice Aa SC.length ca) ∧ W.cell? ⟨w2.heap.size, 1, none⟩ = some (.slice Da L.length da) ∧ W.cell? ⟨w3.heap.size, 0, none⟩ = some (.slice Ab SC.length cb) ∧ W.cell? ⟨w3.heap.size, 1, none⟩ = some (.slice Db M.length db) ∧ I2 W)
        (first | with_reducible exact HT2A.out | with_reducible exact HT1A.out | with_reducible exact HTDA.out | with_reducible exact HT0A.out | with_reducible exact HSB.out | with_reducible exact hstep2.out HT2A.out (below_alloc (Below.refl _ _) _) | with_reducible exact hstep2.out HT1A.out (below_alloc (Below.refl _ _) _) | with_reducible exact hstep2.out (by assumption) (below_alloc (Below.refl _ _) _) | with_reducible exact hstep2.out (by assumption) (below_drew (Below.refl _ _)))
        (first
          | (have hgd := HT1A; clear hgd; go_at_call 18; refine (refsame_is (gu2.out (by assumption)).rd hzU Hz.out hzU true (by simp)).mono ?_; rintro e v2 ⟨rfl, hb2⟩; have hS2 := hstep2.out (by assumption) hb2; have HT2A := Aside0.mk hS2; clear hS2 hb2)
          | (go_at_call 23; refine (HRU.out (ga2.out (by assumption)).rd (gb2.out (by assumption)).rd).mono ?_; rintro e v1 ⟨Az, cz, Dz, dz, rfl, hr1, hb1⟩; have Hz := Aside0.mk hr1; have hS1 := hstep2.out (by assumption) hb1; have HT1A := Aside0.mk hS1; clear hS1 hb1 hr1))
      all_goals
        go_wp2
        go_ret
        exact ⟨rfl, gB2.out HT2A.out⟩
  · have HN := Aside0.mk hs
    clear hs
    obtain ⟨E0, hE0⟩ : ∃ E0 : List Int, E0 = [] := ⟨_, rfl⟩
    obtain ⟨E1, hE1⟩ : ∃ E1 : List (List Int), E1 = [] := ⟨_, rfl⟩
    have HE := Aside0.mk (And.intro hE0 hE1)
    have hE0l : ((E0.length : Int) == 0) = true := by rw [hE0]; rfl
    have hE1l : ((E1.length : Int) == 0) = true := by rw [hE1]; rfl
    clear hE0 hE1
    go_enter Try.func5, Try.ntmps5
    go_wp2_with (first
      | (have hgd := HB3; clear hgd; go_at_call 21; refine (unite_no Ha3.out.rd hz Hb3.out.rd hz' HN.out HE.out.1 HE.out.2).mono ?_; rintro e w4 ⟨Au, cu, Du, du, rfl, hr4, hb4⟩; have hx4 := below_box hb4 (.cells #[.slice Au E0.length cu, .slice Du E1.length du] 25); have HB4 := Aside0.mk (below_then HB3.out HB3.out.size hx4); have Ha4 := Aside0.mk (Ha3.out.step hx4); have Hb4 := Aside0.mk (Hb3.out.step hx4); have Hu4 := Aside0.mk (RelBx.new hr4); have qa0_4 := blk2_c0 Ha4.out.blk; have qa1_4 := blk2_c1 Ha4.out.blk; have qb0_4 := blk2_c0 Hb4.out.blk; have qb1_4 := blk2_c1 Hb4.out.blk; have qu0_4 := blk2_c0 Hu4.out.blk; have qu1_4 := blk2_c1 Hu4.out.blk; clear hb4 hr4 hx4 Ha3 Hb3 qa0_3 qa1_3 qb0_3 qb1_3)
      | (have hgd := HB2; clear hgd; go_at_call 19; refine (small_is A2 c2 oth A3 c3 more _ (Kd.C_below HIN.out.2.2.1 HB2.out) hc2 (Kd.C_below HIN.out.2.2.2 HB2.out) hc3 HF'.out).mono ?_; rintro e w3 ⟨Ab, cb, Db, db, rfl, hr3, hb3⟩; have hx3 := below_box hb3 (.cells #[.slice Ab SD.length cb, .slice Db M.length db] 25); have HB3 := Aside0.mk (below_then HB2.out HB2.out.size hx3); have Ha3 := Aside0.mk (Ha2.out.step hx3); have Hb3 := Aside0.mk (RelBx.new hr3); have qa0_3 := blk2_c0 Ha3.out.blk; have qa1_3 := blk2_c1 Ha3.out.blk; have qb0_3 := blk2_c0 Hb3.out.blk; have qb1_3 := blk2_c1 Hb3.out.blk; clear hb3 hr3 hx3 Ha2 qa0_2 qa1_2)
      | (have hgd := HB1; clear hgd; go_at_call 19; refine (small_is A0 c0 sch A1 c1 rows _ (Kd.C_below HIN.out.1 HB1.out) hc0 (Kd.C_below HIN.out.2.1 HB1.out) hc1 HF.out).mono ?_; rintro e w2 ⟨Aa, ca, Da, da, rfl, hr2, hb2⟩; have hx2 := below_box hb2 (.cells #[.slice Aa SC.length ca, .slice Da L.length da] 25); have HB2 := Aside0.mk (below_then HB1.out HB1.out.size hx2); have Ha2 := Aside0.mk (RelBx.new hr2); have qa0_2 := blk2_c0 Ha2.out.blk; have qa1_2 := blk2_c1 Ha2.out.blk; clear hb2 hr2 hx2)
      | (go_at_call 12; refine (shown_any _).mono ?_; rintro e w1 ⟨rfl, hb1⟩; have HB1 := Aside0.mk hb1; clear hb1))
    clear qa0_4 qa1_4 qb0_4 qb1_4 qu0_4 qu1_4
    obtain ⟨I, hI⟩ : ∃ I : World → Prop, ∀ W, I W ↔ (Below w.heap.size w W ∧ RelBx W w2.heap.size Aa ca SC Da da L ∧ RelBx W w3.heap.size Ab cb SD Db db M ∧ RelBx W w4.heap.size Au cu E0 Du du E1) := ⟨_, fun _ => Iff.rfl⟩
    have hIst : ∀ {W W1 : World}, I W → Below W.heap.size W W1 → I W1 := fun h hb => by
      obtain ⟨h0, h1, h2, h3⟩ := (hI _).1 h
      exact (hI _).2 ⟨below_then h0 h0.size hb, h1.step hb, h2.step hb, h3.step hb⟩
    have hIal : ∀ {W : World}, I W → (W.cell? ⟨w2.heap.size, 0, none⟩ = some (.slice Aa SC.length ca) ∧ W.cell? ⟨w2.heap.size, 1, none⟩ = some (.slice Da L.length da) ∧ W.cell? ⟨w3.heap.size, 0, none⟩ = some (.slice Ab SD.length cb) ∧ W.cell? ⟨w3.heap.size, 1, none⟩ = some (.slice Db M.length db) ∧ W.cell? ⟨w4.heap.size, 0, none⟩ = some (.slice Au E0.length cu) ∧ W.cell? ⟨w4.heap.size, 1, none⟩ = some (.slice Du E1.length du) ∧ I W) := fun h => by
      obtain ⟨h0, h1, h2, h3⟩ := (hI _).1 h
      exact ⟨blk2_c0 h1.blk, blk2_c1 h1.blk, blk2_c0 h2.blk, blk2_c1 h2.blk, blk2_c0 h3.blk, blk2_c1 h3.blk, h⟩
    have hIof : ∀ {W : World}, (W.cell? ⟨w2.heap.size, 0, none⟩ = some (.slice Aa SC.length ca) ∧ W.cell? ⟨w2.heap.size, 1, none⟩ = some (.slice Da L.length da) ∧ W.cell? ⟨w3.heap.size, 0, none⟩ = some (.slice Ab SD.length cb) ∧ W.cell? ⟨w3.heap.size, 1, none⟩ = some (.slice Db M.length db) ∧ W.cell? ⟨w4.heap.size, 0, none⟩ = some (.slice Au E0.length cu) ∧ W.cell? ⟨w4.heap.size, 1, none⟩ = some (.slice Du E1.length du) ∧ I W) → I W := fun h => h.2.2.2.2.2.2
    have hstep : ∀ {W W1 : World}, (W.cell? ⟨w2.heap.size, 0, none⟩ = some (.slice Aa SC.length ca) ∧ W.cell? ⟨w2.heap.size, 1, none⟩ = some (.slice Da L.length da) ∧ W.cell? ⟨w3.heap.size, 0, none⟩ = some (.slice Ab SD.length cb) ∧ W.cell? ⟨w3.heap.size, 1, none⟩ = some (.slice Db M.length db) ∧ W.cell? ⟨w4.heap.size, 0, none⟩ = some (.slice Au E0.length cu) ∧ W.cell? ⟨w4.heap.size, 1, none⟩ = some (.slice Du E1.length du) ∧ I W) → Below W.heap.size W W1 → (W1.cell? ⟨w2.heap.size, 0, none⟩ = some (.slice Aa SC.length ca) ∧ W1.cell? ⟨w2.heap.size, 1, none⟩ = some (.slice Da L.length da) ∧ W1.cell? ⟨w3.heap.size, 0, none⟩ = some (.slice Ab SD.length cb) ∧ W1.cell? ⟨w3.heap.size, 1, none⟩ = some (.slice Db M.length db) ∧ W1.cell? ⟨w4.heap.size, 0, none⟩ = some (.slice Au E0.length cu) ∧ W1.cell? ⟨w4.heap.size, 1, none⟩ = some (.slice Du E1.length du) ∧ I W1) := fun h hb => hIal (hIst (hIof h) hb)
    have gB : ∀ {W : World}, (W.cell? ⟨w2.heap.size, 0, none⟩ = some (.slice Aa SC.length ca) ∧ W.cell? ⟨w2.heap.size, 1, none⟩ = some (.slice Da L.length da) ∧ W.cell? ⟨w3.heap.size, 0, none⟩ = some (.slice Ab SD.length cb) ∧ W.cell? ⟨w3.heap.size, 1, none⟩ = some (.slice Db M.length db) ∧ W.cell? ⟨w4.heap.size, 0, none⟩ = some (.slice Au E0.length cu) ∧ W.cell? ⟨w4.heap.size, 1, none⟩ = some (.slice Du E1.length du) ∧ I W) → Below w.heap.size w W := fun h => ((hI _).1 (hIof h)).1
    have ga : ∀ {W : World}, (W.cell? ⟨w2.heap.size, 0, none⟩ = some (.slice Aa SC.length ca) ∧ W.cell? ⟨w2.heap.size, 1, none⟩ = some (.slice Da L.length da) ∧ W.cell? ⟨w3.heap.size, 0, none⟩ = some (.slice Ab SD.length cb) ∧ W.cell? ⟨w3.heap.size, 1, none⟩ = some (.slice Db M.length db) ∧ W.cell? ⟨w4.heap.size, 0, none⟩ = some (.slice Au E0.length cu) ∧ W.cell? ⟨w4.heap.size, 1, none⟩ = some (.slice Du E1.length du) ∧ I W) → RelBx W w2.heap.size Aa ca SC Da da L := fun h => ((hI _).1 (hIof h)).2.1
    have gb : ∀ {W : World}, (W.cell? ⟨w2.heap.size, 0, none⟩ = some (.slice Aa SC.length ca) ∧ W.cell? ⟨w2.heap.size, 1, none⟩ = some (.slice Da L.length da) ∧ W.cell? ⟨w3.heap.size, 0, none⟩ = some (.slice Ab SD.length cb) ∧ W.cell? ⟨w3.heap.size, 1, none⟩ = some (.slice Db M.length db) ∧ W.cell? ⟨w4.heap.size, 0, none⟩ = some (.slice Au E0.length cu) ∧ W.cell? ⟨w4.heap.size, 1, none⟩ = some (.slice Du E1.length du) ∧ I W) → RelBx W w3.heap.size Ab cb SD Db db M := fun h => ((hI _).1 (hIof h)).2.2.1
    have gu : ∀ {W : World}, (W.cell? ⟨w2.heap.size, 0, none⟩ = some (.slice Aa SC.length ca) ∧ W.cell? ⟨w2.heap.size, 1, none⟩ = some (.slice Da L.length da) ∧ W.cell? ⟨w3.heap.size, 0, none⟩ = some (.slice Ab SD.length cb) ∧ W.cell? ⟨w3.heap.size, 1, none⟩ = some (.slice Db M.length db) ∧ W.cell? ⟨w4.heap.size, 0, none⟩ = some (.slice Au E0.length cu) ∧ W.cell? ⟨w4.heap.size, 1, none⟩ = some (.slice Du E1.length du) ∧ I W) → RelBx W w4.heap.size Au cu E0 Du du E1 := fun h => ((hI _).1 (hIof h)).2.2.2
    replace hI := Aside0.mk @hI
    replace hIst := Aside0.mk @hIst
    replace hIal := Aside0.mk @hIal
    replace hIof := Aside0.mk @hIof
    replace hstep := Aside0.mk @hstep
    replace gB := Aside0.mk @gB
    replace ga := Aside0.mk @ga
    replace gb := Aside0.mk @gb
    replace gu := Aside0.mk @gu
    have HS0A := Aside0.mk (hIal.out ((hI.out _).2 ⟨HB4.out, Ha4.out, Hb4.out, Hu4.out⟩))
    have HSDA := Aside0.mk (hstep.out HS0A.out (below_drew (Below.refl _ _)))
    go_region_held3 (fun W => W.cell? ⟨w2.heap.size, 0, none⟩ = some (.slice Aa SC.length ca) ∧ W.cell? ⟨w2.heap.size, 1, none⟩ = some (.slice Da L.length da) ∧ W.cell? ⟨w3.heap.size, 0, none⟩ = some (.slice Ab SD.length cb) ∧ W.cell? ⟨w3.heap.size, 1, none⟩ = some (.slice Db M.length db) ∧ W.cell? ⟨w4.heap.size, 0, none⟩ = some (.slice Au E0.length cu) ∧ W.cell? ⟨w4.heap.size, 1, none⟩ = some (.slice Du E1.length du) ∧ I W)
      (first | with_reducible exact HS2A.out | with_reducible exact HS1A.out | with_reducible exact HSDA.out | with_reducible exact HS0A.out | with_reducible exact HSB.out | with_reducible exact hstep.out HS2A.out (below_alloc (Below.refl _ _) _) | with_reducible exact hstep.out HS1A.out (below_alloc (Below.refl _ _) _) | with_reducible exact hstep.out (by assumption) (below_alloc (Below.refl _ _) _) | with_reducible exact hstep.out (by assumption) (below_drew (Below.refl _ _)))
      (first
        | (have hgd := HS1A; clear hgd; go_at_call 18; refine (refsame_is (ga.out (by assumption)).rd hz (gb.out (by assumption)).rd hz' b0 HB0.out).mono ?_; rintro e v2 ⟨rfl, hb2⟩; have hS2 := hstep.out (by assumption) hb2; have HS2A := Aside0.mk hS2; clear hS2 hb2)
        | (go_at_call 20; refine (same_is (ga.out (by assumption)).rd hz (gb.out (by assumption)).rd b0 HB0.out).mono ?_; rintro e v1 ⟨rfl, hb1⟩; have hS1 := hstep.out (by assumption) hb1; have HS1A := Aside0.mk hS1; clear hS1 hb1))
    all_goals
      have qa0 := blk2_c0 (ga.out HS2A.out).blk
      have qb0 := blk2_c0 (gb.out HS2A.out).blk
      have hsl := hz.s
      have hsl' := hz'.s
      have hbb : (b0 != b0) = false := by cases b0 <;> rfl
      obtain ⟨r0, hr0⟩ : ∃ r0 : Int, Pl.cmp SC SD = r0 := ⟨_, rfl⟩
      have HR0 := Aside0.mk (show arboristref01_Compare.f 5000 SC SD = some r0 by rw [Compare_f SC SD 5000 (by omega) (by omega) (by omega), hr0])
      have hrn : (r0 != 0) = true := by rw [bne_iff_ne]; exact fun h => HN.out ((Pl.cmp_eq _ _).1 (by rw [hr0, h]))
      clear hr0
      go_wp2_with (go_at_call 22; refine (arboristref01_Compare.calls 5000 Aa ca SC Ab cb SD r0 _ (ga.out HS2A.out).rd.row (ga.out HS2A.out).rd.cap (gb.out HS2A.out).rd.row (gb.out HS2A.out).rd.cap HR0.out).mono ?_; rintro e x5 ⟨rfl, hd⟩; have HB5 := Aside0.mk (below_then (gB.out HS2A.out) (gB.out HS2A.out).size hd.below); have Ha5 := Aside0.mk ((ga.out HS2A.out).step hd.below); have Hb5 := Aside0.mk ((gb.out HS2A.out).step hd.below); have Hu5 := Aside0.mk ((gu.out HS2A.out).step hd.below); have qu0 := blk2_c0 Hu5.out.blk; have qu1 := blk2_c1 Hu5.out.blk; clear hd qa0 qb0)
      go_ret
      exact ⟨rfl, HB5.out⟩
end Go.Proofs.Ytlinhcgggfdlpaa.G

namespace Go.Proofs.Ytlinhcgggfdlpaa.relUnions
open Go.ChangeShapes Go.WideShapes Go.ChangeAt Go.RowKit Go.Proofs.YtlinhcgggfdlpaaW.PrintWords Go.Proofs.YtlinhcgggfdlpaaW.PrintLast Go.Proofs.YtlinhcgggfdlpaaW.PrintMore
set_option linter.unusedVariables false
theorem own : ownKnob Try.prog.godebug = none := by kernel_rfl
theorem laidOut : laidOutB Try.prog = true := by kernel_rfl
set_option maxRecDepth 100000 in
theorem lifted (os : Os) (started : os.Started) (H : Type) (enc : TypeId × Value → H) :
    ReturnsInHanded {} Try.checked os 5 .any (Rows.relUnionsSpec.pre6 enc Try.prog Try.f5 Rows.relUnionsRow.domain false) (Rows.relUnionsSpec.post enc Try.prog Try.f5 false true false false) := by
  refine returnsInHanded_of_change (C := Try.checked) own started (by kernel_rfl) Try.func5
    (ChangeSpec.witness6 (enc := enc) (C := Try.checked) false ⟨#[], #[.slice none 0 0, .slice none 0 0, .slice none 0 0, .slice none 0 0], []⟩ 8 (by kernel_rfl) (by kernel_rfl) (by kernel_rfl) (by kernel_rfl)) ?_
  intro W base args ds gs before hval0 hW hcnd _
  have hval : ∀ (j : Nat) t v, Try.f5.params[j]? = some t → args[j]? = some v → Value.okWide Try.prog W .any base t v := hval0
  have hW' := hW
  obtain ⟨p, q, hA0, hV, rfl, hfz, hnd⟩ := hW
  have hA : DataW.TrodAll enc Try.prog W 0 (fun _ => true) true Try.f5.params.toList args.toList ds p := hA0
  rw [Try.params5] at hA hval
  obtain ⟨v0, vs0, d0, ds0, p0, q0, hargs, rfl, rfl, h0, r0⟩ := trodAll_cons hA
  obtain ⟨v1, vs1, d1, ds1, p1, q1, rfl, rfl, rfl, h1, r1⟩ := trodAll_cons r0
  obtain ⟨v2, vs2, d2, ds2, p2, q2, rfl, rfl, rfl, h2, r2⟩ := trodAll_cons r1
  obtain ⟨v3, vs3, d3, ds3, p3, q3, rfl, rfl, rfl, h3, r3⟩ := trodAll_cons r2
  obtain ⟨rfl, rfl, rfl⟩ := trodAll_nil r3
  obtain rfl : args = #[v0, v1, v2, v3] := by cases args; simp_all
  obtain ⟨rfl, rfl⟩ := trodVars_none hV
  obtain ⟨a0, len0, cap0, rfl⟩ := okWide_slice Try.underlying22 (hval 0 22 v0 rfl rfl)
  obtain ⟨a1, len1, cap1, rfl⟩ := okWide_slice Try.underlying23 (hval 1 23 v1 rfl rfl)
  obtain ⟨a2, len2, cap2, rfl⟩ := okWide_slice Try.underlying22 (hval 2 22 v2 rfl rfl)
  obtain ⟨a3, len3, cap3, rfl⟩ := okWide_slice Try.underlying23 (hval 3 23 v3 rfl rfl)
  have k0 := h0
  have lt0 : ∀ x ∈ p0, x.block < W.heap.size := by obtain ⟨m, hm⟩ := k0; exact DataW.trod_lt m _ _ _ hm
  have k1 := h1
  have lt1 : ∀ x ∈ p1, x.block < W.heap.size := by obtain ⟨m, hm⟩ := k1; exact DataW.trod_lt m _ _ _ hm
  have k2 := h2
  have lt2 : ∀ x ∈ p2, x.block < W.heap.size := by obtain ⟨m, hm⟩ := k2; exact DataW.trod_lt m _ _ _ hm
  have k3 := h3
  have lt3 : ∀ x ∈ p3, x.block < W.heap.size := by obtain ⟨m, hm⟩ := k3; exact DataW.trod_lt m _ _ _ hm
  obtain ⟨z0, e0, l0, c0⟩ : ∃ xs : List Int, xs.length = len0 ∧ len0 ≤ cap0 ∧ Kd.C G.KI W a0 xs.length xs := by obtain ⟨m, hm⟩ := h0; exact G.in_ints hm
  obtain ⟨z1, e1, l1, c1⟩ : ∃ L : List (List Int), L.length = len1 ∧ len1 ≤ cap1 ∧ Kd.C G.KL W a1 L.length L := by obtain ⟨m, hm⟩ := h1; exact G.in_rows hm
  obtain ⟨z2, e2, l2, c2⟩ : ∃ xs : List Int, xs.length = len2 ∧ len2 ≤ cap2 ∧ Kd.C G.KI W a2 xs.length xs := by obtain ⟨m, hm⟩ := h2; exact G.in_ints hm
  obtain ⟨z3, e3, l3, c3⟩ : ∃ L : List (List Int), L.length = len3 ∧ len3 ≤ cap3 ∧ Kd.C G.KL W a3 L.length L := by obtain ⟨m, hm⟩ := h3; exact G.in_rows hm
  clear hA0 hval0
  subst e0 e1 e2 e3
  refine (G.relunions_walk a0 cap0 z0 a1 cap1 z1 a2 cap2 z2 a3 cap3 z3 W c0 l0 c1 l1 c2 l2 c3 l3).mono fun e W' ⟨he, bel⟩ => ?_
  subst he
  exact ⟨_, rfl, _, _, _, [], _, [], hW', trodAll_mk1 (shut_bool Try.underlying4 _), (trodAll_cons_mk (Below.trod laidOut (by kernel_rfl) (of_decide_eq_true (by kernel_rfl)) k0 bel lt0) (trodAll_cons_mk (Below.trod laidOut (by kernel_rfl) (of_decide_eq_true (by kernel_rfl)) k1 bel lt1) (trodAll_cons_mk (Below.trod laidOut (by kernel_rfl) (of_decide_eq_true (by kernel_rfl)) k2 bel lt2) (trodAll_cons_mk (Below.trod laidOut (by kernel_rfl) (of_decide_eq_true (by kernel_rfl)) k3 bel lt3) trodAll_mk0)))), rfl, bel.frame _, fun h => by cases h⟩
theorem over : Rows.relUnionsRow.holds Try.pinned (OpenSpec.ofChange Rows.relUnionsSpec) :=
  OpenClaim.holds_of_wide 5 Try.f5 rfl rfl rfl rfl rfl rfl rfl ⟨rfl, rfl, rfl, rfl, rfl⟩ rfl rfl rfl rfl rfl (by kernel_rfl) Try.func5 (by kernel_rfl)
    (of_decide_eq_true (by kernel_rfl)) (by unfold Func.isWrapper; first | (rw [if_pos (by decide +kernel)]; kernel_rfl) | (rw [if_neg (by decide +kernel)]; exact ⟨rfl, rfl⟩))
    (fun os started H enc _ => lifted os started H enc)
theorem proved : Rows.RelUnionsSaid := over
#print axioms proved
end Go.Proofs.Ytlinhcgggfdlpaa.relUnions
