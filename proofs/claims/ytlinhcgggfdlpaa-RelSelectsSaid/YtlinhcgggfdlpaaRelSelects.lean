/- Proved: for every input the law arboristlaw02.RelSelects returns true and its arguments read as they did. No condition. -/
import Derived.Test.YtlinhcgggfdlpaaRows
import Derived.Test.YtlinhcgggfdlpaaBox
import Derived.Deep.Matrix
import Derived.ProofKit
import Derived.OpenShut
import Derived.WalkKit
import Derived.ShutString
import Derived.ChangeOld
import Derived.Below
set_option linter.unusedVariables false
set_option linter.unusedSimpArgs false
namespace Go.Proofs.Ytlinhcgggfdlpaa.G
open Go.RowKit Go.Proofs.YtlinhcgggfdlpaaW.PrintWords Go.Proofs.YtlinhcgggfdlpaaW.PrintLast Go.Proofs.YtlinhcgggfdlpaaW.PrintMore Go.Proofs.Ytlinhcgggfdlpaa.PRefs
attribute [local go_sem] min2_mn min_two

/-- Union's call: the answer is the call's own. -/
theorem unite_own {w : World} {A : Option Addr} {c : Nat} {sc : List Int} {A' : Option Addr} {c' : Nat} {L : List (List Int)} {B : Option Addr} {d : Nat} {B' : Option Addr} {d' : Nat} {M : List (List Int)} (h : RelRd w A c sc A' c' L) (hz : Sz sc L) (h' : RelRd w B d sc B' d' M) (hz' : Sz sc M) {R : List (List Int)} (hR : Pl.sortU (L ++ M) = R) :
    Calls Try.prog 21 #[.agg #[.slice A sc.length c, .slice A' L.length c'], .agg #[.slice B sc.length d, .slice B' M.length d']] w fun e w' => ∃ A c A' c', e = .returned (.tuple #[.agg #[.slice A sc.length c, .slice A' R.length c'], .int .i64 0]) ∧ RelM w' w.heap.size (.agg #[.slice A sc.length c, .slice A' R.length c']) (sc, R) ∧ Below w.heap.size w w' := by
  subst hR
  have h1 := hz.s
  have h2 := hz.l
  have h3 := hz'.l
  refine (union_any A c sc A' c' L B d sc B' d' M w h.row h.rows h'.row h'.rows (by omega) (by omega) (by omega) (fun x hx => by have := hz.x x hx; omega) (fun x hx => by have := hz'.x x hx; omega)).mono ?_
  rintro e w' ⟨v, rfl, hv, hb⟩
  rw [unionRel, if_pos rfl] at hv
  have hv' := hv
  obtain ⟨A, c, A', c', rfl, h⟩ := hv.rd
  exact ⟨A, c, A', c', by rw [unionErr, if_pos rfl], hv', hb⟩
theorem among_nil (sc : List Int) (L : List (List Int)) (v : Int) : among sc L v [] = [] := by unfold among; exact List.filter_eq_nil_iff.2 fun t _ => by simp
theorem among_sz {sc : List Int} {L : List (List Int)} (h : Sz sc L) (v : Int) (l : List Int) : Sz sc (among sc L v l) := ⟨h.s, Nat.le_trans (List.length_filter_le _ _) h.l, fun x hx => h.x x (memF hx)⟩
theorem relm_rd {W : World} {B : Option Addr} {d : Nat} {sc : List Int} {B' : Option Addr} {d' : Nat} {M : List (List Int)} {base : Nat} (hm : RelM W base (.agg #[.slice B sc.length d, .slice B' M.length d']) (sc, M)) : RelRd W B d sc B' d' M := by
  obtain ⟨A, c, A', c', e, h⟩ := hm.rd
  have h2 := congrArg Value.cells e
  simp [Value.cells] at h2
  obtain ⟨⟨rfl, rfl⟩, rfl, rfl⟩ := h2
  exact h
/-- A box takes a relation. -/
theorem box_takes {W : World} {g : Nat} {x y : Value} {sc : List Int} {B : Option Addr} {d : Nat} {B' : Option Addr} {d' : Nat} {M : List (List Int)} {base : Nat} (h : W.heap[g]? = some (.cells #[x, y] 25 (0, 0))) (hm : RelM W base (.agg #[.slice B sc.length d, .slice B' M.length d']) (sc, M)) (hb : g < base) :
    RelBx ((W.setCell ⟨g, 0, none⟩ (.slice B sc.length d)).setCell ⟨g, 1, none⟩ (.slice B' M.length d')) g B d sc B' d' M :=
  ⟨blk2_s1 (blk2_s0 h _) _, relm_rd ((hm.far (p := ⟨g, 0, none⟩) hb (.slice B sc.length d)).far (p := ⟨g, 1, none⟩) hb (.slice B' M.length d'))⟩
theorem select_own {w : World} {A : Option Addr} {c : Nat} {sc : List Int} {A' : Option Addr} {c' : Nat} {L : List (List Int)} {v value : Int} (h : RelRd w A c sc A' c' L) (hz : Sz sc L) {SC' : List Int} {L' : List (List Int)} (hP : selRel sc L v value = (SC', L')) :
    Calls Try.prog 26 #[.agg #[.slice A sc.length c, .slice A' L.length c'], .int .i64 v, .int .i64 value] w fun e w' => ∃ A c A' c', e = .returned (.agg #[.slice A SC'.length c, .slice A' L'.length c']) ∧ RelM w' w.heap.size (.agg #[.slice A SC'.length c, .slice A' L'.length c']) (SC', L') ∧ Below w.heap.size w w' := by
  have h1 := hz.s
  have h2 := hz.l
  refine (select_any A c sc A' c' L v value w h.row h.rows (by omega) (by omega) (fun x hx => by have := hz.x x hx; omega)).mono ?_
  rintro e w' ⟨u, rfl, hv, hb⟩
  rw [hP] at hv
  have hv' := hv
  obtain ⟨A, c, A', c', rfl, h⟩ := hv.rd
  exact ⟨A, c, A', c', rfl, hv', hb⟩

set_option maxHeartbeats 2000000 in
set_option maxRecDepth 100000 in
theorem relselects_walk (A0 : Option Addr) (c0 : Nat) (sch : List Int) (A1 : Option Addr) (c1 : Nat) (rows : List (List Int)) (v0 : Int) (w : World) (hr0 : Kd.C KI w A0 sch.length sch) (hc0 : sch.length ≤ c0) (hr1 : Kd.C KL w A1 rows.length rows) (hc1 : rows.length ≤ c1) :
    Calls Try.prog 10 #[.slice A0 sch.length c0, .slice A1 rows.length c1, .int .i64 v0] w fun e w' => e = .returned (.bool true) ∧ Below w.heap.size w w' := by
  have HIN := Aside0.mk (And.intro hr0 hr1)
  have hP := right_small sch rows
  have hz := sz_small sch rows
  have HF := Aside0.mk (Small_f sch rows 4000 (Nat.le_refl _))
  generalize smallRows (smallS sch).length rows = L at *
  generalize smallS sch = SC at *
  obtain ⟨v, hv⟩ : ∃ v, (Go.bits .and .i64 v0 65535).tmod 6 = v := ⟨_, rfl⟩
  obtain ⟨l, hl⟩ : ∃ l, valsOf SC L v = l := ⟨_, rfl⟩
  have HP := Aside0.mk hP
  have HL := Aside0.mk hl
  have hLb := hz.l
  clear hl hP
  clear hr0 hr1
  have hf1 := rel_field1
  go_enter Try.func10, Try.ntmps10
  go_wp2_with (first
    | (have hgd := HB2; clear hgd; go_at_call 30; refine (values_is Hr2.out.rd hz HL.out).mono ?_; rintro e w3 ⟨Al, cl, rfl, hr3, hb3⟩; have HB3 := Aside0.mk (below_then HB2.out HB2.out.size hb3); have Hr3 := Aside0.mk (Hr2.out.step hb3); have Hl3 := Aside0.mk hr3.2; have hcapl := hr3.1; have qr0_3 := blk2_c0 Hr3.out.blk; have qr1_3 := blk2_c1 Hr3.out.blk; clear hb3 hr3 Hr2 qr0_2 qr1_2)
    | (have hgd := HB1; clear hgd; go_at_call 19; refine (small_is A0 c0 sch A1 c1 rows _ (Kd.C_below HIN.out.1 HB1.out) hc0 (Kd.C_below HIN.out.2 HB1.out) hc1 HF.out).mono ?_; rintro e w2 ⟨Ar, cr, Dr, dr, rfl, hr2, hb2⟩; have hx2 := below_box hb2 (.cells #[.slice Ar SC.length cr, .slice Dr L.length dr] 25); have HB2 := Aside0.mk (below_then HB1.out HB1.out.size hx2); have Hr2 := Aside0.mk (RelBx.new hr2); have qr0_2 := blk2_c0 Hr2.out.blk; have qr1_2 := blk2_c1 Hr2.out.blk; clear hb2 hr2 hx2)
    | (go_at_call 12; refine (shown_any _).mono ?_; rintro e w1 ⟨rfl, hb1⟩; have HB1 := Aside0.mk hb1; clear hb1))
  have hB3 := below_alloc (Below.refl w3.heap.size w3) (.cells #[.slice Ar SC.length cr, .slice none 0 0] 25)
  have HA := Aside0.mk (And.intro hB3 (RelBx.new (A' := none) (c' := 0) (L := []) ⟨Hr3.out.rd.row, Hr3.out.rd.cap, Kd.C_nil _ _, Nat.le_refl _⟩))
  clear hB3 qr0_3 qr1_3
  go_loopw [10, 12] (fun n i W => ∃ (k : Nat) (M : List (List Int)) (Aq : Option Addr) (cq : Nat) (Dq : Option Addr) (dq : Nat), k ≤ l.length ∧ n = .int .i64 M.length ∧ i = .int .i64 k ∧ Aside0 (M = among SC L v (l.take k)) ∧ Aside0 (Below w3.heap.size w3 W ∧ RelBx W w3.heap.size Aq cq SC Dq dq M)) (fun n i _ => l.length - (intOf i).toNat)
  case atStart => exact ⟨0, [], Ar, cr, none, 0, Nat.zero_le _, rfl, rfl, ⟨by rw [List.take_zero, among_nil]⟩, HA⟩
  case round =>
    clear HA
    obtain ⟨k, M, Aq, cq, Dq, dq, hk, rfl, rfl, HM, HI⟩ := hrel
    have HB := Aside0.mk (below_then HB3.out HB3.out.size HI.out.1)
    have hr := Hr3.out.step HI.out.1
    have hlr := Kd.C_below Hl3.out HI.out.1
    have hMz : Sz SC M := by rw [HM.out]; exact among_sz hz _ _
    have hMl := hMz.l
    by_cases hlt : k < l.length
    · have hin : v ∈ SC := Classical.byContradiction fun h => by have := vals_out HP.out h; rw [HL.out] at this; rw [this] at hlt; simp at hlt
      obtain ⟨a, ha⟩ : ∃ a, rd l (k : Int) = a := ⟨_, rfl⟩
      have hae : a = l[k] := by rw [← ha, rd_get _ _ hlt]
      have hal : a ∈ valsOf SC L v := by rw [HL.out, hae]; exact List.getElem_mem hlt
      have hT := sel_some HP.out hin a hal
      have hTz := sz_sel hz v a
      have hri : Rise l := by rw [← HL.out]; exact (vals_in HP.out hin).1
      have htk : l.take (k + 1) = l.take k ++ [a] := by rw [List.take_succ_eq_append_getElem hlt, hae]
      have han : ¬ a ∈ l.take k := fun h => by
        have h2 : Rise (l.take k ++ [a]) := by rw [← htk]; exact List.Pairwise.sublist (List.take_sublist _ _) hri
        have := ((rise_snoc _ _).1 h2).2 a h
        omega
      have hU : Pl.sortU (M ++ (selRel SC L v a).2) = among SC L v (l.take (k + 1)) := by rw [HM.out, htk]; exact among_union HP.out hin _ a
      have hN : (among SC L v (l.take (k + 1))).length = M.length + (selRel SC L v a).2.length := by rw [HM.out, htk]; exact among_len HP.out hin _ a han
      have hzU := among_sz hz v (l.take (k + 1))
      obtain ⟨⟨S1, T⟩, e1⟩ : ∃ r, selRel SC L v a = r := ⟨_, rfl⟩
      have hs1 : SC = S1 := congrArg Prod.fst e1
      subst hs1
      rw [e1] at hT hTz hU hN
      simp only at hT hTz hU hN
      generalize hMM : among SC L v (l.take (k + 1)) = MM at *
      have HMM := Aside0.mk hMM
      have HE := Aside0.mk (And.intro e1 hU)
      have hUl := hzU.l
      have ht0 : ((T.length : Int) == 0) = false := by rw [beq_eq_false_iff_ne]; omega
      have hwr : IntKind.i64.wrap ((M.length : Int) + (T.length : Int)) = (MM.length : Int) := by rw [IntWalk.i64_in _ (by omega)]; omega
      have hkl : (k : Int) < (l.length : Int) := by omega
      obtain ⟨ad, rfl, hx⟩ := at_int' hlr (Below.refl _ _) (k : Int) (by omega) hkl
      rw [ha, Int.toNat_natCast] at hx
      have hl2 : l.length ≤ 9223372036854775807 := hlr.2.1
      have HX := Aside0.mk (And.intro hx (And.intro hr hlr))
      clear hMM e1 hU hN ha hae hal hT hri htk han hx hr hlr
      go_wp2_with (fail)
      obtain ⟨I, hI⟩ : ∃ I : World → Prop, ∀ W, I W ↔ (Below w.heap.size w W ∧ RelBx W w2.heap.size Ar cr SC Dr dr L ∧ RelBx W w3.heap.size Aq cq SC Dq dq M ∧ Below w3.heap.size w3 W ∧ W.cell? (ad.add k) = some (.int .i64 a)) := ⟨_, fun _ => Iff.rfl⟩
      have hIst : ∀ {W W1 : World}, I W → Below W.heap.size W W1 → I W1 := fun h hb => by
        obtain ⟨h0, h1, h2, h3, h4⟩ := (hI _).1 h
        exact (hI _).2 ⟨below_then h0 h0.size hb, h1.step hb, h2.step hb, below_then h3 h3.size hb, (hb.cell (World.block_lt_of_cell? _ _ h4)).trans h4⟩
      have hIal : ∀ {W : World}, I W → (W.cell? ⟨w2.heap.size, 0, none⟩ = some (.slice Ar SC.length cr) ∧ W.cell? ⟨w2.heap.size, 1, none⟩ = some (.slice Dr L.length dr) ∧ W.cell? ⟨w3.heap.size, 0, none⟩ = some (.slice Aq SC.length cq) ∧ W.cell? ⟨w3.heap.size, 1, none⟩ = some (.slice Dq M.length dq) ∧ W.cell? (ad.add k) = some (.int .i64 a) ∧ I W) := fun h => by
        obtain ⟨h0, h1, h2, h3, h4⟩ := (hI _).1 h
        exact ⟨blk2_c0 h1.blk, blk2_c1 h1.blk, blk2_c0 h2.blk, blk2_c1 h2.blk, h4, h⟩
      have hIof : ∀ {W : World}, (W.cell? ⟨w2.heap.size, 0, none⟩ = some (.slice Ar SC.length cr) ∧ W.cell? ⟨w2.heap.size, 1, none⟩ = some (.slice Dr L.length dr) ∧ W.cell? ⟨w3.heap.size, 0, none⟩ = some (.slice Aq SC.length cq) ∧ W.cell? ⟨w3.heap.size, 1, none⟩ = some (.slice Dq M.length dq) ∧ W.cell? (ad.add k) = some (.int .i64 a) ∧ I W) → I W := fun h => h.2.2.2.2.2
      have hstep : ∀ {W W1 : World}, (W.cell? ⟨w2.heap.size, 0, none⟩ = some (.slice Ar SC.length cr) ∧ W.cell? ⟨w2.heap.size, 1, none⟩ = some (.slice Dr L.length dr) ∧ W.cell? ⟨w3.heap.size, 0, none⟩ = some (.slice Aq SC.length cq) ∧ W.cell? ⟨w3.heap.size, 1, none⟩ = some (.slice Dq M.length dq) ∧ W.cell? (ad.add k) = some (.int .i64 a) ∧ I W) → Below W.heap.size W W1 → (W1.cell? ⟨w2.heap.size, 0, none⟩ = some (.slice Ar SC.length cr) ∧ W1.cell? ⟨w2.heap.size, 1, none⟩ = some (.slice Dr L.length dr) ∧ W1.cell? ⟨w3.heap.size, 0, none⟩ = some (.slice Aq SC.length cq) ∧ W1.cell? ⟨w3.heap.size, 1, none⟩ = some (.slice Dq M.length dq) ∧ W1.cell? (ad.add k) = some (.int .i64 a) ∧ I W1) := fun h hb => hIal (hIst (hIof h) hb)
      have gB : ∀ {W : World}, (W.cell? ⟨w2.heap.size, 0, none⟩ = some (.slice Ar SC.length cr) ∧ W.cell? ⟨w2.heap.size, 1, none⟩ = some (.slice Dr L.length dr) ∧ W.cell? ⟨w3.heap.size, 0, none⟩ = some (.slice Aq SC.length cq) ∧ W.cell? ⟨w3.heap.size, 1, none⟩ = some (.slice Dq M.length dq) ∧ W.cell? (ad.add k) = some (.int .i64 a) ∧ I W) → Below w.heap.size w W := fun h => ((hI _).1 (hIof h)).1
      have gr : ∀ {W : World}, (W.cell? ⟨w2.heap.size, 0, none⟩ = some (.slice Ar SC.length cr) ∧ W.cell? ⟨w2.heap.size, 1, none⟩ = some (.slice Dr L.length dr) ∧ W.cell? ⟨w3.heap.size, 0, none⟩ = some (.slice Aq SC.length cq) ∧ W.cell? ⟨w3.heap.size, 1, none⟩ = some (.slice Dq M.length dq) ∧ W.cell? (ad.add k) = some (.int .i64 a) ∧ I W) → RelBx W w2.heap.size Ar cr SC Dr dr L := fun h => ((hI _).1 (hIof h)).2.1
      have gq : ∀ {W : World}, (W.cell? ⟨w2.heap.size, 0, none⟩ = some (.slice Ar SC.length cr) ∧ W.cell? ⟨w2.heap.size, 1, none⟩ = some (.slice Dr L.length dr) ∧ W.cell? ⟨w3.heap.size, 0, none⟩ = some (.slice Aq SC.length cq) ∧ W.cell? ⟨w3.heap.size, 1, none⟩ = some (.slice Dq M.length dq) ∧ W.cell? (ad.add k) = some (.int .i64 a) ∧ I W) → RelBx W w3.heap.size Aq cq SC Dq dq M := fun h => ((hI _).1 (hIof h)).2.2.1
      have gm0 : ∀ {W : World}, (W.cell? ⟨w2.heap.size, 0, none⟩ = some (.slice Ar SC.length cr) ∧ W.cell? ⟨w2.heap.size, 1, none⟩ = some (.slice Dr L.length dr) ∧ W.cell? ⟨w3.heap.size, 0, none⟩ = some (.slice Aq SC.length cq) ∧ W.cell? ⟨w3.heap.size, 1, none⟩ = some (.slice Dq M.length dq) ∧ W.cell? (ad.add k) = some (.int .i64 a) ∧ I W) → Below w3.heap.size w3 W := fun h => ((hI _).1 (hIof h)).2.2.2.1
      have gm1 : ∀ {W : World}, (W.cell? ⟨w2.heap.size, 0, none⟩ = some (.slice Ar SC.length cr) ∧ W.cell? ⟨w2.heap.size, 1, none⟩ = some (.slice Dr L.length dr) ∧ W.cell? ⟨w3.heap.size, 0, none⟩ = some (.slice Aq SC.length cq) ∧ W.cell? ⟨w3.heap.size, 1, none⟩ = some (.slice Dq M.length dq) ∧ W.cell? (ad.add k) = some (.int .i64 a) ∧ I W) → W.cell? (ad.add k) = some (.int .i64 a) := fun h => ((hI _).1 (hIof h)).2.2.2.2
      replace hI := Aside0.mk @hI
      replace hIst := Aside0.mk @hIst
      replace hIal := Aside0.mk @hIal
      replace hIof := Aside0.mk @hIof
      replace hstep := Aside0.mk @hstep
      replace gB := Aside0.mk @gB
      replace gr := Aside0.mk @gr
      replace gq := Aside0.mk @gq
      replace gm0 := Aside0.mk @gm0
      replace gm1 := Aside0.mk @gm1
      have HS0A := Aside0.mk (hIal.out ((hI.out _).2 ⟨HB.out, HX.out.2.1, HI.out.2, HI.out.1, HX.out.1⟩))
      have HSDA := Aside0.mk (hstep.out HS0A.out (below_drew (Below.refl _ _)))
      go_region_held3 (fun W => W.cell? ⟨w2.heap.size, 0, none⟩ = some (.slice Ar SC.length cr) ∧ W.cell? ⟨w2.heap.size, 1, none⟩ = some (.slice Dr L.length dr) ∧ W.cell? ⟨w3.heap.size, 0, none⟩ = some (.slice Aq SC.length cq) ∧ W.cell? ⟨w3.heap.size, 1, none⟩ = some (.slice Dq M.length dq) ∧ W.cell? (ad.add k) = some (.int .i64 a) ∧ I W)
        (first | with_reducible exact HS1A.out | with_reducible exact HSDA.out | with_reducible exact HS0A.out | with_reducible exact HSB.out | with_reducible exact hstep.out HS1A.out (below_alloc (Below.refl _ _) _) | with_reducible exact hstep.out (by assumption) (below_alloc (Below.refl _ _) _) | with_reducible exact hstep.out (by assumption) (below_drew (Below.refl _ _)))
        (first
          | (go_at_call 26; refine (select_own (gr.out (by assumption)).rd hz HE.out.1).mono ?_; rintro e v1 ⟨As, cs, Ds, ds, rfl, hr1, hb1⟩; have Hs := Aside0.mk hr1; have hS1 := hstep.out (by assumption) hb1; have HS1A := Aside0.mk hS1; try (have hbk : v1.heap[wr.heap.size]? = some (.cells #[.slice none 0 0, .slice none 0 0] 25 (0, 0)) := (hb1.block wr.heap.size (by simp)).trans (heap_alloc_new wr.drew _); have p0 := blk2_c0 hbk; have p1 := blk_fr (i := 0) hbk; have hs0 := blk2_s0 hbk (.slice As SC.length cs); have p2 := blk2_c1 hs0; have p3 := blk_fr (i := 1) hs0; have hbb := below_alloc (below_drew (Below.refl wr.heap.size wr)) (.cells #[.slice none 0 0, .slice none 0 0] 25); have hbv := below_then hbb hbb.size hb1; have HSB := Aside0.mk (hstep.out HS0A.out ((hbv.setCell (p := ⟨wr.heap.size, 0, none⟩) (Nat.le_refl _) (.slice As SC.length cs)).setCell (p := ⟨wr.heap.size, 1, none⟩) (Nat.le_refl _) (.slice Ds T.length ds))); have HBK := Aside0.mk (And.intro hbk (show wr.heap.size < (wr.drew.alloc (.cells #[.slice none 0 0, .slice none 0 0] 25)).heap.size by simp)); clear hbk hs0 hbb hbv); clear hS1 hb1 hr1))
      all_goals
        first
        | (have Hsb := Aside0.mk (box_takes HBK.out.1 Hs.out HBK.out.2); have HSF := HSB; clear HBK HSB p0 p1 p2 p3; generalize (v1.setCell ⟨wr.heap.size, 0, none⟩ (.slice As SC.length cs)).setCell ⟨wr.heap.size, 1, none⟩ (.slice Ds T.length ds) = WW at Hsb HSF ⊢; generalize wr.heap.size = gs at Hsb ⊢)
        | (have Hsb := Aside0.mk (RelBx.new (relm_rd Hs.out)); have HSF := Aside0.mk (hstep.out HS1A.out (below_alloc (Below.refl _ _) (.cells #[.slice As SC.length cs, .slice Ds T.length ds] 25))); generalize v1.alloc (.cells #[.slice As SC.length cs, .slice Ds T.length ds] 25) = WW at Hsb HSF ⊢; generalize v1.heap.size = gs at Hsb ⊢)
        have qs0 := blk2_c0 Hsb.out.blk
        have qs1 := blk2_c1 Hsb.out.blk
        have qq0 := blk2_c0 (gq.out HSF.out).blk
        have qq1 := blk2_c1 (gq.out HSF.out).blk
        go_wp2_with (go_at_call 21; refine (unite_own (gq.out HSF.out).rd hMz Hsb.out.rd hTz HE.out.2).mono ?_; rintro e x1 ⟨Au, cu, Du, du, rfl, hm, hb⟩; have HU := Aside0.mk (RelM.below hm (below_alloc (Below.refl _ _) (.cells #[.slice Au SC.length cu, .slice Du MM.length du] 25))); have hbx := below_box hb (.cells #[.slice Au SC.length cu, .slice Du MM.length du] 25); have HQ := Aside0.mk ((gq.out HSF.out).step hbx); have HBQ := Aside0.mk (below_then (gm0.out HSF.out) (gm0.out HSF.out).size hbx); have hub := heap_alloc_new x1 (.cells #[.slice Au SC.length cu, .slice Du MM.length du] 25); have qu0 := blk2_c0 hub; have qu1 := blk2_c1 hub; have Hsb2 := Aside0.mk (Hsb.out.step hbx); have qs0' := blk2_c0 Hsb2.out.blk; have qs1' := blk2_c1 Hsb2.out.blk; have p0 := blk2_c0 HQ.out.blk; have p1 := blk_fr (i := 0) HQ.out.blk; have hs0 := blk2_s0 HQ.out.blk (.slice Au SC.length cu); have p2 := blk2_c1 hs0; have p3 := blk_fr (i := 1) hs0; clear hm hb hbx hub hs0 qs0 qs1 qq0 qq1)
        have hgq : w3.heap.size < WW.heap.size := (Array.getElem?_eq_some_iff.1 (gq.out HSF.out).blk).1
        go_roundw
        case rel => exact ⟨k + 1, MM, Au, cu, Du, du, by omega, rfl, by go_num, ⟨HMM.out.symm⟩, ⟨(HBQ.out.setCell (Nat.le_refl _) _).setCell (Nat.le_refl _) _, box_takes HQ.out.blk HU.out hgq⟩⟩
        case measure => simp [intOf]; omega
    · have hke : k = l.length := by omega
      subst hke
      have hkl : ¬ (l.length : Int) < (l.length : Int) := by omega
      rw [List.take_length] at HM
      have qr0 := blk2_c0 hr.blk
      have qr1 := blk2_c1 hr.blk
      have qq0 := blk2_c0 HI.out.2.blk
      have qq1 := blk2_c1 HI.out.2.blk
      have HIN2 := Aside0.mk (In_f SC v 2000 (by have := hz.s; omega) (by have := hz.s; omega))
      have HR := Aside0.mk hr
      clear hr hlr
      by_cases hin : v ∈ SC
      · rw [decide_eq_true hin] at HIN2
        have hML : M = L := by rw [HM.out, ← HL.out]; exact among_all HP.out hin
        have HML := Aside0.mk hML
        have hll : (M.length : Int) = (L.length : Int) := by rw [hML]
        have hnn : ((M.length : Int) == (L.length : Int)) = true := by rw [hll]; exact beq_self_eq_true _
        clear hML hin hll
        go_wp2_with (first
          | (go_at_call 20; refine (same_is HI2.out.rd hMz HR2.out.rd true (decide_eq_true ⟨rfl, HML.out⟩)).mono ?_; rintro e x2 ⟨rfl, hb2⟩; have HB5 := Aside0.mk (below_then HB4.out HB4.out.size hb2); have HR3 := Aside0.mk (HR2.out.step hb2); have qr0'' := blk2_c0 HR3.out.blk; have qr1'' := blk2_c1 HR3.out.blk; clear hb2)
          | (go_at_call 32; refine (arboristref01_In.calls 2000 Ar cr SC v true _ HR.out.rd.row HR.out.rd.cap HIN2.out).mono ?_; rintro e x1 ⟨rfl, hd⟩; have hb1 := hd.below; have HB4 := Aside0.mk (below_then HB.out HB.out.size hb1); have HR2 := Aside0.mk (HR.out.step hb1); have HI2 := Aside0.mk (HI.out.2.step hb1); have qr0' := blk2_c0 HR2.out.blk; have qr1' := blk2_c1 HR2.out.blk; have qq0' := blk2_c0 HI2.out.blk; have qq1' := blk2_c1 HI2.out.blk; clear hd hb1 qr0 qr1 qq0 qq1))
        go_ret
        exact ⟨rfl, HB5.out⟩
      · rw [decide_eq_false hin] at HIN2
        have hl0 : l = [] := by rw [← HL.out]; exact vals_out HP.out hin
        subst hl0
        have HSE := Aside0.mk (sel_out SC L hin 5)
        clear hin
        go_wp2_with (go_at_call 32; refine (arboristref01_In.calls 2000 Ar cr SC v false _ HR.out.rd.row HR.out.rd.cap HIN2.out).mono ?_; rintro e x1 ⟨rfl, hd⟩; have hb1 := hd.below; have HB4 := Aside0.mk (below_then HB.out HB.out.size hb1); have HR2 := Aside0.mk (HR.out.step hb1); clear hd hb1 qr0 qr1 qq0 qq1)
        obtain ⟨I, hI⟩ : ∃ I : World → Prop, ∀ W, I W ↔ (Below w.heap.size w W ∧ RelBx W w2.heap.size Ar cr SC Dr dr L) := ⟨_, fun _ => Iff.rfl⟩
        have hIst : ∀ {W W1 : World}, I W → Below W.heap.size W W1 → I W1 := fun h hb => by
          obtain ⟨h0, h1⟩ := (hI _).1 h
          exact (hI _).2 ⟨below_then h0 h0.size hb, h1.step hb⟩
        have hIal : ∀ {W : World}, I W → (W.cell? ⟨w2.heap.size, 0, none⟩ = some (.slice Ar SC.length cr) ∧ W.cell? ⟨w2.heap.size, 1, none⟩ = some (.slice Dr L.length dr) ∧ I W) := fun h => by
          obtain ⟨h0, h1⟩ := (hI _).1 h
          exact ⟨blk2_c0 h1.blk, blk2_c1 h1.blk, h⟩
        have hIof : ∀ {W : World}, (W.cell? ⟨w2.heap.size, 0, none⟩ = some (.slice Ar SC.length cr) ∧ W.cell? ⟨w2.heap.size, 1, none⟩ = some (.slice Dr L.length dr) ∧ I W) → I W := fun h => h.2.2
        have hstep : ∀ {W W1 : World}, (W.cell? ⟨w2.heap.size, 0, none⟩ = some (.slice Ar SC.length cr) ∧ W.cell? ⟨w2.heap.size, 1, none⟩ = some (.slice Dr L.length dr) ∧ I W) → Below W.heap.size W W1 → (W1.cell? ⟨w2.heap.size, 0, none⟩ = some (.slice Ar SC.length cr) ∧ W1.cell? ⟨w2.heap.size, 1, none⟩ = some (.slice Dr L.length dr) ∧ I W1) := fun h hb => hIal (hIst (hIof h) hb)
        have gB : ∀ {W : World}, (W.cell? ⟨w2.heap.size, 0, none⟩ = some (.slice Ar SC.length cr) ∧ W.cell? ⟨w2.heap.size, 1, none⟩ = some (.slice Dr L.length dr) ∧ I W) → Below w.heap.size w W := fun h => ((hI _).1 (hIof h)).1
        have gr : ∀ {W : World}, (W.cell? ⟨w2.heap.size, 0, none⟩ = some (.slice Ar SC.length cr) ∧ W.cell? ⟨w2.heap.size, 1, none⟩ = some (.slice Dr L.length dr) ∧ I W) → RelBx W w2.heap.size Ar cr SC Dr dr L := fun h => ((hI _).1 (hIof h)).2
        replace hI := Aside0.mk @hI
        replace hIst := Aside0.mk @hIst
        replace hIal := Aside0.mk @hIal
        replace hIof := Aside0.mk @hIof
        replace hstep := Aside0.mk @hstep
        replace gB := Aside0.mk @gB
        replace gr := Aside0.mk @gr
        have HS0A := Aside0.mk (hIal.out ((hI.out _).2 ⟨HB4.out, HR2.out⟩))
        have HSDA := Aside0.mk (hstep.out HS0A.out (below_drew (Below.refl _ _)))
        go_region_held3 (fun W => W.cell? ⟨w2.heap.size, 0, none⟩ = some (.slice Ar SC.length cr) ∧ W.cell? ⟨w2.heap.size, 1, none⟩ = some (.slice Dr L.length dr) ∧ I W)
          (first | with_reducible exact HS2A.out | with_reducible exact HS1A.out | with_reducible exact HSDA.out | with_reducible exact HS0A.out | with_reducible exact HSB.out | with_reducible exact hstep.out HS2A.out (below_alloc (Below.refl _ _) _) | with_reducible exact hstep.out HS1A.out (below_alloc (Below.refl _ _) _) | with_reducible exact hstep.out (by assumption) (below_alloc (Below.refl _ _) _) | with_reducible exact hstep.out (by assumption) (below_drew (Below.refl _ _)))
          (first
            | (have hgd := HS1A; clear hgd; go_at_call 20; refine (same_is Hu.out hz (gr.out (by assumption)).rd true (by simp)).mono ?_; rintro e v2 ⟨rfl, hb2⟩; have hS2 := hstep.out (by assumption) hb2; have HS2A := Aside0.mk hS2; clear hS2 hb2)
            | (go_at_call 26; refine (select_is (gr.out (by assumption)).rd hz HSE.out).mono ?_; rintro e v1 ⟨Au, cu, Du, du, rfl, hr1, hb1⟩; have Hu := Aside0.mk hr1; have hS1 := hstep.out (by assumption) hb1; have HS1A := Aside0.mk hS1; clear hS1 hb1 hr1))
        all_goals
          go_wp2
          go_ret
          exact ⟨rfl, gB.out HS2A.out⟩
end Go.Proofs.Ytlinhcgggfdlpaa.G

namespace Go.Proofs.Ytlinhcgggfdlpaa.relSelects
open Go.ChangeShapes Go.WideShapes Go.ChangeAt Go.RowKit Go.Proofs.YtlinhcgggfdlpaaW.PrintWords Go.Proofs.YtlinhcgggfdlpaaW.PrintLast Go.Proofs.YtlinhcgggfdlpaaW.PrintMore
set_option linter.unusedVariables false
theorem own : ownKnob Try.prog.godebug = none := by kernel_rfl
theorem laidOut : laidOutB Try.prog = true := by kernel_rfl
set_option maxRecDepth 100000 in
theorem lifted (os : Os) (started : os.Started) (H : Type) (enc : TypeId × Value → H) :
    ReturnsInHanded {} Try.checked os 10 .any (Rows.relSelectsSpec.pre6 enc Try.prog Try.f10 Rows.relSelectsRow.domain false) (Rows.relSelectsSpec.post enc Try.prog Try.f10 false true false false) := by
  refine returnsInHanded_of_change (C := Try.checked) own started (by kernel_rfl) Try.func10
    (ChangeSpec.witness6 (enc := enc) (C := Try.checked) false ⟨#[], #[.slice none 0 0, .slice none 0 0, .int .i64 0], []⟩ 8 (by kernel_rfl) (by kernel_rfl) (by kernel_rfl) (by kernel_rfl)) ?_
  intro W base args ds gs before hval0 hW hcnd _
  have hval : ∀ (j : Nat) t v, Try.f10.params[j]? = some t → args[j]? = some v → Value.okWide Try.prog W .any base t v := hval0
  have hW' := hW
  obtain ⟨p, q, hA0, hV, rfl, hfz, hnd⟩ := hW
  have hA : DataW.TrodAll enc Try.prog W 0 (fun _ => true) true Try.f10.params.toList args.toList ds p := hA0
  rw [Try.params10] at hA hval
  obtain ⟨v0, vs0, d0, ds0, p0, q0, hargs, rfl, rfl, h0, r0⟩ := trodAll_cons hA
  obtain ⟨v1, vs1, d1, ds1, p1, q1, rfl, rfl, rfl, h1, r1⟩ := trodAll_cons r0
  obtain ⟨v2, vs2, d2, ds2, p2, q2, rfl, rfl, rfl, h2, r2⟩ := trodAll_cons r1
  obtain ⟨rfl, rfl, rfl⟩ := trodAll_nil r2
  obtain rfl : args = #[v0, v1, v2] := by cases args; simp_all
  obtain ⟨rfl, rfl⟩ := trodVars_none hV
  obtain ⟨a0, len0, cap0, rfl⟩ := okWide_slice Try.underlying22 (hval 0 22 v0 rfl rfl)
  obtain ⟨a1, len1, cap1, rfl⟩ := okWide_slice Try.underlying23 (hval 1 23 v1 rfl rfl)
  have k0 := h0
  have lt0 : ∀ x ∈ p0, x.block < W.heap.size := by obtain ⟨m, hm⟩ := k0; exact DataW.trod_lt m _ _ _ hm
  have k1 := h1
  have lt1 : ∀ x ∈ p1, x.block < W.heap.size := by obtain ⟨m, hm⟩ := k1; exact DataW.trod_lt m _ _ _ hm
  obtain ⟨z0, e0, l0, c0⟩ : ∃ xs : List Int, xs.length = len0 ∧ len0 ≤ cap0 ∧ Kd.C G.KI W a0 xs.length xs := by obtain ⟨m, hm⟩ := h0; exact G.in_ints hm
  obtain ⟨z1, e1, l1, c1⟩ : ∃ L : List (List Int), L.length = len1 ∧ len1 ≤ cap1 ∧ Kd.C G.KL W a1 L.length L := by obtain ⟨m, hm⟩ := h1; exact G.in_rows hm
  obtain ⟨a2, rfl, rfl, rfl, w2⟩ := open_int Try.underlying3 (hval 2 3 v2 rfl rfl) h2
  clear hA0 hval0
  subst e0 e1
  refine (G.relselects_walk a0 cap0 z0 a1 cap1 z1 a2 W c0 l0 c1 l1).mono fun e W' ⟨he, bel⟩ => ?_
  subst he
  exact ⟨_, rfl, _, _, _, [], _, [], hW', trodAll_mk1 (shut_bool Try.underlying4 _), (trodAll_cons_mk (Below.trod laidOut (by kernel_rfl) (of_decide_eq_true (by kernel_rfl)) k0 bel lt0) (trodAll_cons_mk (Below.trod laidOut (by kernel_rfl) (of_decide_eq_true (by kernel_rfl)) k1 bel lt1) (trodAll_cons_mk (shut_int Try.underlying3 w2) trodAll_mk0))), rfl, bel.frame _, fun h => by cases h⟩
theorem over : Rows.relSelectsRow.holds Try.pinned (OpenSpec.ofChange Rows.relSelectsSpec) :=
  OpenClaim.holds_of_wide 10 Try.f10 rfl rfl rfl rfl rfl rfl rfl ⟨rfl, rfl, rfl, rfl, rfl⟩ rfl rfl rfl rfl rfl (by kernel_rfl) Try.func10 (by kernel_rfl)
    (of_decide_eq_true (by kernel_rfl)) (by unfold Func.isWrapper; first | (rw [if_pos (by decide +kernel)]; kernel_rfl) | (rw [if_neg (by decide +kernel)]; exact ⟨rfl, rfl⟩))
    (fun os started H enc _ => lifted os started H enc)
theorem proved : Rows.RelSelectsSaid := over
#print axioms proved
end Go.Proofs.Ytlinhcgggfdlpaa.relSelects
