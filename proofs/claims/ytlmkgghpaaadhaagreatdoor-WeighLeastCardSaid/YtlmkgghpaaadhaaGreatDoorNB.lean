/- Several texts of this claim in one. -/
import Derived.Test.YtlmkgghpaaadhaaGreatDoorNA
/- weigh: a scheme that is shifted in place. -/
set_option linter.unusedVariables false
set_option linter.unusedSimpArgs false
namespace Go.Proofs.YtlmkgghpaaadhaaGreatDoor.G
open Go.RowKit Go.Proofs.YtlmkgghpaaadhaaGreatDoorW.PrintWords Go.Proofs.YtlmkgghpaaadhaaGreatDoorW.PrintLast Go.Proofs.YtlmkgghpaaadhaaGreatDoorW.PrintMore Go.Proofs.YtlmkgghpaaadhaaGreatDoor.PRefs

/-- Rows that weigh something, in a box: a scheme of a block of its own, all else in later blocks. -/
structure ShB (W : World) (base gb : Nat) (A : Option Addr) (c n : Nat) (sc : List Int) (A' : Option Addr) (c' n' : Nat) (L : List (List Int)) (Aw : Option Addr) (cw m : Nat) (ws : List Int) : Prop where
  blk : W.heap[gb]? = some (.cells #[.slice A n c, .slice A' n' c', .slice Aw m cw] 37 (0, 0))
  ln : sc.length = n
  ln' : L.length = n'
  lm : ws.length = m
  own : ∃ g, base ≤ g ∧ g ≤ gb ∧ Kd.R KI 3 W base (fun k => base ≤ k ∧ k < g) (.slice A n c) sc ∧ Kd.N KL 22 W g (fun k => g ≤ k) (.slice A' n' c') L ∧ Kd.R KI 2 W g (fun k => g ≤ k) (.slice Aw m cw) ws
theorem ShB.step {W W1 : World} {base gb : Nat} {A : Option Addr} {c n : Nat} {sc : List Int} {A' : Option Addr} {c' n' : Nat} {L : List (List Int)} {Aw : Option Addr} {cw m : Nat} {ws : List Int} (h : ShB W base gb A c n sc A' c' n' L Aw cw m ws) (hb : Below W.heap.size W W1) : ShB W1 base gb A c n sc A' c' n' L Aw cw m ws := by
  obtain ⟨g, h0, h1, h2, h3, h4⟩ := h.own
  exact ⟨(hb.block _ (Array.getElem?_eq_some_iff.1 h.blk).1).trans h.blk, h.ln, h.ln', h.lm, g, h0, h1, Kd.R_below h2 hb, Kd.N_below h3 hb, Kd.R_below h4 hb⟩
theorem ShB.wbx {W : World} {base gb : Nat} {A : Option Addr} {c n : Nat} {sc : List Int} {A' : Option Addr} {c' n' : Nat} {L : List (List Int)} {Aw : Option Addr} {cw m : Nat} {ws : List Int} (h : ShB W base gb A c n sc A' c' n' L Aw cw m ws) : WBx W gb A c n sc A' c' n' L Aw cw m ws := by
  obtain ⟨g, h0, h1, h2, h3, h4⟩ := h.own
  have e0 := Kd.R_reads' h2
  have e1 := Kd.N_reads' h3
  have e2 := Kd.R_reads' h4
  exact ⟨h.blk, h.ln, h.ln', h.lm, ⟨⟨e0.2.2, by rw [← e0.1]; exact e0.2.1, e1.2.2, by rw [← e1.1]; exact e1.2.1⟩, e2.2.2, by rw [← e2.1]; exact e2.2.1⟩⟩
theorem ShB.put {W : World} {base gb : Nat} {A : Option Addr} {c n : Nat} {sc : List Int} {A' : Option Addr} {c' n' : Nat} {L : List (List Int)} {Aw : Option Addr} {cw m : Nat} {ws : List Int} (h : ShB W base gb A c n sc A' c' n' L Aw cw m ws) {k : Nat} (hk : k < n) :
    ∃ gs, A = some ⟨gs, 0, none⟩ ∧ base ≤ gs ∧ W.cell? ⟨gs, k, none⟩ = some (.int .i64 (rd sc (k : Int))) ∧ W.frozen? ⟨gs, k, none⟩ = false ∧ ∀ x : Int, ShB (W.setCell ⟨gs, k, none⟩ (.int .i64 x)) base gb A c n (sc.set k x) A' c' n' L Aw cw m ws := by
  obtain ⟨g, h0, h1, h2, h3, h4⟩ := h.own
  obtain ⟨inner, ho⟩ := Kd.R_own h2
  rcases ho.2 with ⟨hv, _⟩ | ⟨gs, cap, cur, hv, hgb, hh, _⟩
  · injection hv with _ hv _
    omega
  · injection hv with hv hv2 hv3
    subst hv hv3
    have hkn : (k : Int) < (n : Int) := by omega
    obtain ⟨c0, hcl, hM, hcc, hfr⟩ := Kd.R_elem h2 0 (k : Int) (by omega) hkn
    have hgs : base ≤ gs ∧ gs < g := h2.1 gs (by simp [Value.ownBlock])
    have hne : gs ≠ gb := by omega
    have hM' : c0 = [.int .i64 (sc.getD k 0)] := by rw [Int.toNat_natCast] at hM; exact hM
    have hc1 := hcc 0 (.int .i64 (sc.getD k 0)) (by rw [hM']; rfl)
    rw [Int.toNat_natCast, show KI.sz = 1 from rfl, Nat.mul_one, Nat.add_zero] at hc1
    have hf1 := hfr 0
    rw [Int.toNat_natCast, show KI.sz = 1 from rfl, Nat.mul_one, Nat.add_zero] at hf1
    refine ⟨gs, rfl, hgs.1, by rw [hc1]; rfl, hf1, fun x => ?_⟩
    obtain ⟨hR2, hg⟩ := Kd.R_seg (okp := fun _ => False) (x' := x) h2 (k : Int) (by omega) hkn (c := c0) (seg := [.int .i64 x]) (j := 0) hcl hcc (Nat.le_refl 1) (by
      rw [hM']; rfl) (fun _ h => h.elim)
    have ew : W.setCells gs ((k : Int).toNat * KI.sz + 0) [.int .i64 x] = W.setCell ⟨gs, k, none⟩ (.int .i64 x) := by
      rw [Int.toNat_natCast, show KI.sz = 1 from rfl, Nat.mul_one, Nat.add_zero]; rfl
    rw [ew] at hR2 hg
    rw [Int.toNat_natCast] at hR2
    refine ⟨?_, by simp [h.ln], h.ln', h.lm, g, h0, h1, hR2, Kd.N_far h3 (fun q hq => by have : g ≤ q := hq; show q ≠ gs; omega) _, Kd.R_far h4 (fun q hq => by have : g ≤ q := hq; show q ≠ gs; omega) _⟩
    rw [Below.heap_setCell W ⟨gs, k, none⟩ _ gb (by show gb ≠ gs; omega)]
    exact h.blk
/-- The first k numbers shifted. -/
def shTo (sc : List Int) (k : Nat) : List Int := (sc.take k).map (· + 5) ++ sc.drop k
theorem shTo_len (sc : List Int) (k : Nat) : (shTo sc k).length = sc.length := by simp [shTo]; omega
theorem shTo_zero (sc : List Int) : shTo sc 0 = sc := by simp [shTo]
theorem shTo_all (sc : List Int) : shTo sc sc.length = sc.map (· + 5) := by simp [shTo]
theorem shTo_rd {sc : List Int} {k : Nat} (h : k < sc.length) : rd (shTo sc k) (k : Int) = rd sc (k : Int) := by
  rw [rd_get _ _ (by rw [shTo_len]; exact h), rd_get _ _ h]
  simp only [shTo]
  rw [List.getElem_append_right (by simp; omega)]
  simp only [List.getElem_drop, List.length_map, List.length_take]
  congr 1
  omega
theorem shTo_succ {sc : List Int} {k : Nat} (h : k < sc.length) : (shTo sc k).set k (rd sc (k : Int) + 5) = shTo sc (k + 1) := by
  rw [rd_get _ _ h]
  refine List.ext_getElem (by simp [shTo_len]) fun i h1 h2 => ?_
  rw [List.getElem_set]
  have hi : i < sc.length := by simpa [shTo_len] using h1
  simp only [shTo]
  by_cases e : k = i
  · subst e
    rw [if_pos rfl, List.getElem_append_left (by simp; omega)]
    simp
  · rw [if_neg e]
    by_cases e2 : i < k
    · rw [List.getElem_append_left (by simp; omega), List.getElem_append_left (by simp; omega)]
      simp
    · rw [List.getElem_append_right (by simp; omega), List.getElem_append_right (by simp; omega)]
      simp only [List.getElem_drop, List.length_map, List.length_take]
      congr 1
      omega
theorem shift_rise {sc : List Int} (h : Rise sc) : Rise (sc.map (· + 5)) := List.pairwise_map.2 (h.imp fun h' => by show _ + 5 < _ + 5; omega)
theorem shift_right {sc : List Int} {L : List (List Int)} (h : RightP sc L) : RightP (sc.map (· + 5)) L := by
  have hp := (right_pos h.1.1).1 h.1.2
  refine ⟨⟨shift_rise h.1.1, (right_pos (shift_rise h.1.1)).2 fun x hx => ?_⟩, fun t ht => by rw [List.length_map]; exact h.2.1 t ht, h.2.2⟩
  obtain ⟨y, hy, rfl⟩ := List.mem_map.1 hx
  have := hp y hy
  show 0 ≤ y + 5
  omega
theorem shift_few {s : List Int} {R : List (List Int)} {ws : List Int} (h : Few4 ⟨s, R, ws⟩) : Few4 ⟨s.map (· + 5), R, ws⟩ := ⟨shift_right h.r, h.l, h.n, h.w⟩
theorem shift_rt {s : List Int} {R : List (List Int)} (h : Sm s R) : Sm (s.map (· + 5)) R := ⟨⟨shift_right h.rt.r, by rw [List.length_map]; exact h.rt.s, h.rt.l, h.rt.i⟩, by rw [List.length_map]; exact h.s, h.l⟩
theorem shift_apart {sch sch' : List Int} : ∀ v ∈ smallS3 sch, v ∉ (smallS3 sch').map (· + 5) := fun v hv hv' => by
  obtain ⟨y, hy, e⟩ := List.mem_map.1 hv'
  have h1 := smallS3_pos sch v hv
  have h2 := smallS3_pos sch' y hy
  have e : y + 5 = v := e
  omega
section
variable {w : World} {A : Option Addr} {c : Nat} {sc : List Int} {A' : Option Addr} {c' : Nat} {L : List (List Int)}
theorem ref_sh {n n' : Nat} {Aa : Option Addr} {ca : Nat} {xA : List Int} {Ab : Option Addr} {nb cb : Nat} {g : Nat} (h : P4Bx w g A c sc A' c' L Aa ca xA Ab nb cb) (most : Int) (hm0 : 0 < most) (hm1 : most ≤ 4611686018427387904) (hnb : nb ≤ 9223372036854775807) {s : List Int} (hs : smallS3 sc = s) {R : List (List Int)} (hR : smallRows3 s.length L = R) (h1 : s.length = n) (h2 : R.length = n') :
    Calls Tryz.prog 14 #[.agg #[.slice A sc.length c, .slice A' L.length c', .slice Aa xA.length ca, .slice Ab nb cb], .int .i64 most, .bool true] w fun e w' => ∃ A2 c2 A3 c3 A4 c4, e = .returned (.agg #[.slice A2 n c2, .slice A3 n' c3, .slice A4 n' c4]) ∧ RefOwn w' w.heap.size (.slice A2 n c2) s (.slice A3 n' c3) R ∧ Kd.C KWt w' A4 n' (refW most xA n') ∧ Below w.heap.size w w' := by
  subst h1 h2
  refine (ref_own h.rd h.a most hm0 hm1 hnb hs hR).mono ?_
  rintro e w' ⟨A2, c2, A3, c3, A4, c4, rfl, hM, hD, hb⟩
  refine ⟨A2, c2, A3, c3, A4, c4, rfl, hM, ?_, hb⟩
  have h1 := (Kd.R_reads' hD).2.2
  rw [refW_len] at h1
  exact h1
theorem number_sh {n n' base : Nat} {s : List Int} {R : List (List Int)} (h : RefOwn w base (.slice A n c) s (.slice A' n' c') R) (h1 : s.length = n) (h2 : R.length = n') {A4 : Option Addr} {c4 : Nat} {xA : List Int} {most : Int} (hD : Kd.C KWt w A4 n' (refW most xA n')) (hm : R.length ≤ 1000000) {ws : List Int} (hw : (List.range R.length).map (refV most xA) = ws) :
    Calls Tryz.prog 16 #[.agg #[.slice A n c, .slice A' n' c', .slice A4 n' c4]] w fun e w' => ∃ Aw cw, e = .returned (.agg #[.slice A n c, .slice A' n' c', .slice Aw n' cw]) ∧ ShB (w'.alloc (.cells #[.slice A n c, .slice A' n' c', .slice Aw n' cw] 37)) base w'.heap.size A c n s A' c' n' R Aw cw n' ws ∧ Below w.heap.size w w' := by
  subst h1 h2
  have hl : (refW most xA R.length).length = R.length := refW_len _ _ _
  have hM : (refW most xA R.length).map (fun x => x.f0) = ws := by rw [← hw, refW, List.map_map]; rfl
  have hwl : ws.length = R.length := by rw [← hw]; simp
  have hD' : Kd.C KWt w A4 (refW most xA R.length).length (refW most xA R.length) := by rw [hl]; exact hD
  have h1 := number_any (A := A) (c := c) (n := s.length) (A' := A') (c' := c') (n' := R.length) (c4 := c4) hD' (by rw [hl]; exact hm) hM
  rw [hl] at h1
  refine h1.mono ?_
  rintro e w' ⟨Aw, cw, rfl, hR, hb⟩
  rw [hwl] at hR
  obtain ⟨g, ⟨hg1, hg2⟩, h2, h3⟩ := h.below hb
  have hal := below_alloc (Below.refl w'.heap.size w') (.cells #[.slice A s.length c, .slice A' R.length c', .slice Aw R.length cw] 37)
  obtain ⟨g', ⟨hg1', hg2'⟩, h2', h3'⟩ := h
  exact ⟨Aw, cw, by rw [hwl], ⟨heap_alloc_new w' _, rfl, rfl, hwl, g', hg1', Nat.le_trans hg2' hb.size, Kd.R_below (Kd.R_below h2' hb) hal, Kd.N_below (Kd.N_below h3' hb) hal, Kd.R_below (Kd.R_lower (Kd.R_mono hR (fun k hk => Nat.le_trans hg2' hk)) hg2') hal⟩, hb⟩
end
end Go.Proofs.YtlmkgghpaaadhaaGreatDoor.G

/- weigh: products and sums of what shares nothing, in calls. -/
set_option linter.unusedVariables false
set_option linter.unusedSimpArgs false
namespace Go.Proofs.YtlmkgghpaaadhaaGreatDoor.G
open Go.RowKit Go.Proofs.YtlmkgghpaaadhaaGreatDoorW.PrintWords Go.Proofs.YtlmkgghpaaadhaaGreatDoorW.PrintLast Go.Proofs.YtlmkgghpaaadhaaGreatDoorW.PrintMore

theorem edge_prod {X Y : Int} (h : ((X * Y).natAbs : Int) ≤ 4611686018427387904) : joinedTo fTimes ⟨[], [[]], [X]⟩ ⟨[], [[]], [Y]⟩ 1 = (⟨[], [[]], [X * Y]⟩, 0) := by
  rw [edge_j, fTimes_small h]
  rfl
theorem edge_nil_l (f : WF) (M : List (List Int)) (v : List Int) : joinedTo f ⟨[], [], []⟩ ⟨[], M, v⟩ 1 = (⟨[], [], []⟩, 0) := by
  unfold joinedTo
  simp only [none_join, uni_nn]
  rfl
theorem edge_nil_r (f : WF) (M : List (List Int)) (v : List Int) : joinedTo f ⟨[], M, v⟩ ⟨[], [], []⟩ 1 = (⟨[], [], []⟩, 0) := by
  unfold joinedTo
  simp only [join_none, uni_nn]
  rfl
theorem none_rt : Rt [] [] := ⟨by decide, by simp, by simp, by simp [InR]⟩
theorem inW_nil : InW [] := fun x hx => by cases hx
section
variable {w : World} {A : Option Addr} {c n : Nat} {sa : List Int} {A' : Option Addr} {c' n' : Nat} {La : List (List Int)} {Aw : Option Addr} {cw m : Nat} {wa : List Int} {B : Option Addr} {d k : Nat} {sb : List Int} {B' : Option Addr} {d' k' : Nat} {Lb : List (List Int)} {Bw : Option Addr} {dw l : Nat} {wb : List Int}
theorem times_is {ga gb : Nat} (h : WBx w ga A c n sa A' c' n' La Aw cw m wa) (ht : Rt sa La) (hw : InW wa) (h' : WBx w gb B d k sb B' d' k' Lb Bw dw l wb) (ht' : Rt sb Lb) (hw' : InW wb) (hm : sa.length ≤ 1000000) (hm' : sb.length ≤ 1000000) (most : Int) (htab : Tab w) {P : WRel} (hP : joinedTo fTimes ⟨sa, La, wa⟩ ⟨sb, Lb, wb⟩ most = (P, 0)) {p p' : Nat} (h1 : P.sc.length = p) (h2 : P.L.length = p') (h3 : P.ws.length = p') :
    Calls Tryz.prog 15 #[.agg #[.slice A n c, .slice A' n' c', .slice Aw m cw], .agg #[.slice B k d, .slice B' k' d', .slice Bw l dw], .int .i64 most] w fun e w' => ∃ A c A' c' Aw cw, e = .returned (.tuple #[.agg #[.slice A p c, .slice A' p' c', .slice Aw p' cw], .int .i64 0]) ∧ WMk w' w.heap.size A c A' c' Aw cw P ∧ Below w.heap.size w w' := by
  obtain ⟨-, q1, q2, q3, hr⟩ := h
  obtain ⟨-, r1, r2, r3, hr'⟩ := h'
  subst q1 q2 q3 r1 r2 r3 h1 h2

  refine (times_any (a := ⟨sa, La, wa⟩) (b := ⟨sb, Lb, wb⟩) hr ht hw hr' ht' hw' hm hm' most htab hP).mono ?_
  rintro e w' ⟨A, c, A', c', Aw, cw, rfl, hM, hb⟩
  exact ⟨A, c, A', c', Aw, cw, by rw [h3], hM, hb⟩
theorem plus_is {ga gb : Nat} (h : WBx w ga A c n sa A' c' n' La Aw cw m wa) (ht : Rt sa La) (hw : InW wa) (h' : WBx w gb B d k sb B' d' k' Lb Bw dw l wb) (ht' : Rt sb Lb) (hw' : InW wb) (hm : sa.length ≤ 1000000) (hm' : sb.length ≤ 1000000) (most : Int) (htab : Tab w) {P : WRel} (hP : joinedTo fPlus ⟨sa, La, wa⟩ ⟨sb, Lb, wb⟩ most = (P, 0)) {p p' : Nat} (h1 : P.sc.length = p) (h2 : P.L.length = p') (h3 : P.ws.length = p') :
    Calls Tryz.prog 17 #[.agg #[.slice A n c, .slice A' n' c', .slice Aw m cw], .agg #[.slice B k d, .slice B' k' d', .slice Bw l dw], .int .i64 most] w fun e w' => ∃ A c A' c' Aw cw, e = .returned (.tuple #[.agg #[.slice A p c, .slice A' p' c', .slice Aw p' cw], .int .i64 0]) ∧ WMk w' w.heap.size A c A' c' Aw cw P ∧ Below w.heap.size w w' := by
  obtain ⟨-, q1, q2, q3, hr⟩ := h
  obtain ⟨-, r1, r2, r3, hr'⟩ := h'
  subst q1 q2 q3 r1 r2 r3 h1 h2
  refine (plus_any (a := ⟨sa, La, wa⟩) (b := ⟨sb, Lb, wb⟩) hr ht hw hr' ht' hw' hm hm' most htab hP).mono ?_
  rintro e w' ⟨A, c, A', c', Aw, cw, rfl, hM, hb⟩
  exact ⟨A, c, A', c', Aw, cw, by rw [h3], hM, hb⟩
end
theorem few_inW {a : WRel} (h : Few4 a) : InW a.ws := fun x hx => by have := h.w x hx; omega
theorem few_tot {a : WRel} (h : Few4 a) : tot a.ws ≤ 4611686018427387904 := by have := h.tot; omega
theorem few_sum {a : WRel} (h : Few4 a) : (a.ws.sum.natAbs : Int) ≤ 11988 := by have := h.tot; have := sum_le_tot a.ws; omega
theorem few_least {a : WRel} (h : Few4 a) (hn : a.ws ≠ []) : ((least a.ws).natAbs : Int) ≤ 999 := h.w _ (least_min hn).1
theorem few_prod {a b : WRel} (h : Few4 a) (h' : Few4 b) : ((a.ws.sum * b.ws.sum).natAbs : Int) ≤ 4611686018427387904 := by
  rw [Int.natAbs_mul]
  have h1 := few_sum h
  have h2 := few_sum h'
  have h3 := Nat.mul_le_mul (show a.ws.sum.natAbs ≤ 11988 by omega) (show b.ws.sum.natAbs ≤ 11988 by omega)
  omega
end Go.Proofs.YtlmkgghpaaadhaaGreatDoor.G
