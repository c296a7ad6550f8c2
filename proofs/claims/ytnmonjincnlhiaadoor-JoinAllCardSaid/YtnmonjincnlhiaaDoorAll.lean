/- join.All: what goes together of all. -/
import Derived.Test.YtnmonjincnlhiaaDoorJoinIs
set_option linter.unusedVariables false
set_option linter.unusedSimpArgs false
namespace Go.Proofs.YtnmonjincnlhiaaDoor.G
open Go.RowKit Go.Proofs.YtnmonjincnlhiaaDoorW.PrintWords Go.Proofs.YtnmonjincnlhiaaDoorW.PrintLast Go.Proofs.YtnmonjincnlhiaaDoorW.PrintMore Go.Proofs.YtnmonjincnlhiaaDoor.PRefs

theorem RelM.of {w : World} {base : Nat} {v : Value} {r : List Int × List (List Int)} (h : RelM w base v r) : ∃ A c A' c', v = .agg #[.slice A r.1.length c, .slice A' r.2.length c'] ∧ RelM w base (.agg #[.slice A r.1.length c, .slice A' r.2.length c']) r := by
  obtain ⟨A, c, A', c', rfl, _⟩ := h.rd
  exact ⟨A, c, A', c', rfl, h⟩
theorem RelM.rd' {w : World} {base : Nat} {A : Option Addr} {c : Nat} {A' : Option Addr} {c' : Nat} {n n' : Nat} {r : List Int × List (List Int)} (h : RelM w base (.agg #[.slice A n c, .slice A' n' c']) r) : RelRd w A c r.1 A' c' r.2 := by
  obtain ⟨B, d, B', d', e, h⟩ := h.rd
  injection e with e
  injection e with e
  injection e with e1 e2
  injection e2 with e2 _
  injection e1 with a1 a2 a3
  injection e2 with b1 b2 b3
  rw [a1, a3, b1, b3]; exact h
/-- A box takes a relation. -/
theorem box_put {W : World} {g : Nat} {x y : Value} {r : List Int × List (List Int)} {B : Option Addr} {d : Nat} {B' : Option Addr} {d' : Nat} {base : Nat} (h : W.heap[g]? = some (.cells #[x, y] 27 (0, 0))) (hm : RelM W base (.agg #[.slice B r.1.length d, .slice B' r.2.length d']) r) (hb : g < base) :
    RelBx ((W.setCell ⟨g, 0, none⟩ (.slice B r.1.length d)).setCell ⟨g, 1, none⟩ (.slice B' r.2.length d')) g B d r.1 B' d' r.2 :=
  ⟨blk2_s1 (blk2_s0 h _) _, RelM.rd' ((hm.far (p := ⟨g, 0, none⟩) hb (.slice B r.1.length d)).far (p := ⟨g, 1, none⟩) hb (.slice B' r.2.length d'))⟩

/-- All joined, one behind the other. -/
def allRel (most : Int) : List S27 → List Int × List (List Int) → Option (List Int × List (List Int))
  | [], acc => some acc
  | r :: l, acc => if ((joinRows acc.1 acc.2 r.f0 r.f1).length : Int) ≤ most then allRel most l (uni acc.1 r.f0, joinRows acc.1 acc.2 r.f0 r.f1) else none
theorem allRel_append (most : Int) (l m : List S27) (acc : List Int × List (List Int)) : allRel most (l ++ m) acc = (allRel most l acc).bind (allRel most m) := by
  induction l generalizing acc with
  | nil => rfl
  | cons r l ih =>
    rw [List.cons_append, allRel, allRel]
    split
    · exact ih _
    · rfl
def allTo (most : Int) (l : List S27) : List Int × List (List Int) := (allRel most l ([], [[]])).getD ([], [])
def allErr (most : Int) (l : List S27) : Int := if (allRel most l ([], [[]])).isSome then 0 else 9
theorem getD_T (l : List S27) (k : Nat) (h : k < l.length) : rd_T27 l (k : Int) = l[k] := by
  unfold rd_T27
  rw [Int.toNat_natCast, List.getD_eq_getElem?_getD, List.getElem?_eq_getElem h]; rfl
theorem allRel_take (most : Int) (l : List S27) (k : Nat) (h : k < l.length) (a b : List Int × List (List Int)) (ha : allRel most (l.take k) a = some b) :
    allRel most (l.take (k + 1)) a = if ((joinRows b.1 b.2 (rd_T27 l (k : Int)).f0 (rd_T27 l (k : Int)).f1).length : Int) ≤ most then some (uni b.1 (rd_T27 l (k : Int)).f0, joinRows b.1 b.2 (rd_T27 l (k : Int)).f0 (rd_T27 l (k : Int)).f1) else none := by
  rw [List.take_succ_eq_append_getElem h, allRel_append, ha, getD_T l k h]
  rfl
theorem allRel_none (most : Int) (l : List S27) (k : Nat) (a : List Int × List (List Int)) (h : allRel most (l.take k) a = none) : allRel most l a = none := by
  rw [← List.take_append_drop k l, allRel_append, h]; rfl
theorem uni_len (sa sb : List Int) : (uni sa sb).length ≤ sa.length + sb.length := merge_len true true true sa sb
theorem rt_join {sc sd : List Int} {L M : List (List Int)} (h : Rt sc L) (h' : Rt sd M) (hs : sc.length + sd.length ≤ 10000000) (hl : (joinRows sc L sd M).length ≤ 20000) : Rt (uni sc sd) (joinRows sc L sd M) :=
  ⟨right_join h.r h'.r, Nat.le_trans (uni_len _ _) hs, hl, inR_both h.i h'.i⟩
theorem rt_unit : Rt [] [[]] := ⟨right_unit, by simp, by simp, fun t ht x hx => by rw [List.mem_singleton.1 ht] at hx; cases hx⟩
theorem blk2_two {W : World} {g t : Nat} {a b : Value} (h : W.heap[g]? = some (.cells #[a, b] t (0, 0))) (u v : Value) : ((W.setCell ⟨g, 0, none⟩ u).setCell ⟨g, 1, none⟩ v).heap[g]? = some (.cells #[u, v] t (0, 0)) := blk2_s1 (blk2_s0 h u) v

section
variable {w : World} {A : Option Addr} {c : Nat} {sc : List Int} {A' : Option Addr} {c' : Nat} {L : List (List Int)} {B : Option Addr} {d : Nat} {sd : List Int} {B' : Option Addr} {d' : Nat} {M : List (List Int)}
theorem join_m (h : RelRd w A c sc A' c' L) (ht : Rt sc L) (h' : RelRd w B d sd B' d' M) (ht' : Rt sd M) (most : Int) (htab : Tab w) {r : List Int × List (List Int)} {n : Int} (hr : joinAt sc L sd M most = r) (hn : joinEr sc L sd M most = n) :
    Calls Tryd.prog 14 #[.agg #[.slice A sc.length c, .slice A' L.length c'], .agg #[.slice B sd.length d, .slice B' M.length d'], .int .i64 most] w fun e w' => ∃ A2 c2 A3 c3, e = .returned (.tuple #[.agg #[.slice A2 r.1.length c2, .slice A3 r.2.length c3], .int .i64 n]) ∧ RelM w' w.heap.size (.agg #[.slice A2 r.1.length c2, .slice A3 r.2.length c3]) r ∧ Below w.heap.size w w' := by
  have h1 := ht.s
  have h2 := ht'.s
  have h3 := ht.l
  have h4 := ht'.l
  refine (join_any A c sc A' c' L B d sd B' d' M most w h.row h.cap h.rows h'.row h'.cap h'.rows (by omega) (by omega) (by omega) (by omega) ht.x ht'.x ht.i ht'.i htab).mono ?_
  rintro e w' ⟨v, rfl, hv, hb⟩
  have e1 : joinTo sc L sd M most = r := by rw [← hr, joinTo, joinAt, raw_len ht.r ht'.r, raw_sort ht.r ht'.r]
  have e2 : joinErr sc L sd M most = n := by rw [← hn, joinErr, joinEr, raw_len ht.r ht'.r]
  rw [e1] at hv
  rw [e2]
  obtain ⟨A, c, A', c', rfl, h⟩ := hv.of
  exact ⟨A, c, A', c', rfl, h, hb⟩
end

set_option maxHeartbeats 4000000 in
set_option maxRecDepth 100000 in
theorem all_any (A0 : Option Addr) (c0 : Nat) (l : List S27) (most : Int) (w : World) (hr0 : Kd.C k27 w A0 l.length l) (hl : l.length ≤ 1000) (hrt : ∀ r ∈ l, Rt r.f0 r.f1 ∧ r.f0.length ≤ 1000) (hm : most ≤ 20000) (htab : Tab w) :
    Calls Tryd.prog 20 #[.slice A0 l.length c0, .int .i64 most] w fun e w' => RelOk w w' e (allTo most l).1 (allTo most l).2 (allErr most l) := by
  have HR := Aside0.mk hr0
  have HX := Aside0.mk hrt
  have HT := Aside0.mk htab
  clear hr0 hrt htab
  have hf0 := rel_field0
  have hf1 := rel_field1
  go_enter Tryd.func20, Tryd.ntmps20
  have hz := heap_alloc_new w (.cells #[.slice none 0 0, .slice none 0 0] 27)
  have HZ0 := Aside0.mk (And.intro (below_alloc (Below.refl w.heap.size w) (.cells #[.slice none 0 0, .slice none 0 0] 27)) hz)
  clear hz
  obtain ⟨U0, hU0⟩ : ∃ U0 : List Int, U0 = [] := ⟨_, rfl⟩
  obtain ⟨L0, hL0⟩ : ∃ L0 : List (List Int), L0 = [[]] := ⟨_, rfl⟩
  have HUL := Aside0.mk (And.intro hU0 hL0)
  have hun : ∀ W, Calls Tryd.prog 23 #[] W fun e w' => ∃ A c D d, e = .returned (.agg #[.slice A U0.length c, .slice D L0.length d]) ∧ RelM w' W.heap.size (.agg #[.slice A U0.length c, .slice D L0.length d]) (U0, L0) ∧ Below W.heap.size W w' := fun W => by
    rw [hU0, hL0]
    refine (unit_any W).mono ?_
    rintro e w' ⟨v, rfl, hv, hb⟩
    obtain ⟨A, c, A', c', rfl, h⟩ := hv.of
    exact ⟨A, c, A', c', rfl, h, hb⟩
  have HUN := Aside0.mk hun
  clear hU0 hL0 hun
  go_wp2_with (go_at_call 23; refine (HUN.out _).mono ?_; rintro e w1 ⟨Au, cu, Du, du, rfl, hu, hb1⟩; have HU := Aside0.mk (And.intro (heap_alloc_new w1 (.cells #[.slice Au U0.length cu, .slice Du L0.length du] 27)) ((hu.lower (show w.heap.size + 1 ≤ _ from by simp)).below (below_alloc (Below.refl _ _) (.cells #[.slice Au U0.length cu, .slice Du L0.length du] 27)))); have hz1 := (hb1.block _ (Array.getElem?_eq_some_iff.1 HZ0.out.2).1).trans HZ0.out.2; have HB1 := Aside0.mk (And.intro (below_alloc (below_then HZ0.out.1 HZ0.out.1.size hb1) (.cells #[.slice Au U0.length cu, .slice Du L0.length du] 27)) ((Below.heap_alloc w1 (.cells #[.slice Au U0.length cu, .slice Du L0.length du] 27) _ (Array.getElem?_eq_some_iff.1 hz1).1).trans hz1)); have hgw := (Array.getElem?_eq_some_iff.1 hz1).1; clear hu hb1 hz1)
  generalize w1.alloc (.cells #[.slice Au U0.length cu, .slice Du L0.length du] 27) = W1 at HU HB1 ⊢
  generalize hg1 : w1.heap.size = g at HU hgw ⊢
  clear hg1
  go_loopw [13] (fun i W => ∃ (k : Nat) (A : Option Addr) (c : Nat) (D : Option Addr) (d : Nat) (acc : List Int × List (List Int)), k ≤ l.length ∧ i = .int .i64 k ∧ Aside0 (allRel most (l.take k) ([], [[]]) = some acc ∧ Rt acc.1 acc.2 ∧ acc.1.length ≤ 1000 * k) ∧ Aside0 ((W.heap[g]? = some (.cells #[.slice A acc.1.length c, .slice D acc.2.length d] 27 (0, 0)) ∧ RelM W (w.heap.size + 1) (.agg #[.slice A acc.1.length c, .slice D acc.2.length d]) acc) ∧ Below w.heap.size w W ∧ W.heap[w.heap.size]? = some (.cells #[.slice none 0 0, .slice none 0 0] 27 (0, 0)))) (fun i _ => l.length - (intOf i).toNat)
  case atStart => exact ⟨0, Au, cu, Du, du, (U0, L0), Nat.zero_le _, rfl, ⟨by rw [HUL.out.1, HUL.out.2]; rfl, by rw [HUL.out.1, HUL.out.2]; exact rt_unit, by rw [HUL.out.1]; simp⟩, ⟨HU.out, HB1.out⟩⟩
  case round =>
    clear HU HB1
    obtain ⟨k, A, c, D, d, acc, hk, rfl, HA, HO⟩ := hrel
    have hrd := RelM.rd' HO.out.1.2
    have q0 := blk2_c0 HO.out.1.1
    have q1 := blk2_c1 HO.out.1.1
    have hgl := (Array.getElem?_eq_some_iff.1 HO.out.1.1).1
    have HRD := Aside0.mk hrd
    clear hrd
    by_cases hlt : k < l.length
    · obtain ⟨ad, Bx, bx, Dx, dx, hA0, hc0, hc1, hcx, hrx, hdx, hrwx⟩ := at_T27 HR.out (k : Int) (by omega) (by omega)
      subst hA0
      have hkl : (k : Int) < (l.length : Int) := by omega
      have hx0 := (HO.out.2.1.cell (World.block_lt_of_cell? w _ hc0)).trans hc0
      have hx1 := (HO.out.2.1.cell (World.block_lt_of_cell? w _ hc1)).trans hc1
      simp only [Int.toNat_natCast] at hx0 hx1
      have hmem : rd_T27 l (k : Int) ∈ l := by rw [getD_T l k hlt]; exact List.getElem_mem hlt
      have hxr := HX.out _ hmem
      have htk := allRel_take most l k hlt ([], [[]]) acc HA.out.1
      obtain ⟨x, hxe⟩ : ∃ x, x = rd_T27 l (k : Int) := ⟨_, rfl⟩
      rw [← hxe] at hx0 hx1 hcx hrx hdx hrwx hxr htk
      have HRX := Aside0.mk (And.intro (RelRd.mk hrx hcx hrwx hdx) (And.intro hxr htk))
      clear hc0 hc1 hcx hrx hdx hrwx hxr htk hxe hmem
      have hj := join_m (w := wr.alloc (.cells #[.slice Bx x.f0.length bx, .slice Dx x.f1.length dx] 27)) (HRD.out.step (below_alloc (Below.refl _ _) _)) HA.out.2.1 (HRX.out.1.step (below_alloc HO.out.2.1 _)) HRX.out.2.1.1 most (HT.out.step (below_alloc HO.out.2.1 _)) rfl rfl
      have qa := (Below.heap_alloc wr (.cells #[.slice Bx x.f0.length bx, .slice Dx x.f1.length dx] 27) _ hgl).trans HO.out.1.1
      have qb := blk2_c0 qa
      have qc := blk2_c1 qa
      have qd := heap_alloc_new wr (.cells #[.slice Bx x.f0.length bx, .slice Dx x.f1.length dx] 27)
      have qe := blk2_c0 qd
      have qf := blk2_c1 qd
      have HQA := Aside0.mk qa
      clear qa qd
      by_cases hfit : ((joinRows acc.1 acc.2 x.f0 x.f1).length : Int) ≤ most
      · rw [show joinAt acc.1 acc.2 x.f0 x.f1 most = (uni acc.1 x.f0, joinRows acc.1 acc.2 x.f0 x.f1) from if_pos hfit, show joinEr acc.1 acc.2 x.f0 x.f1 most = 0 from if_pos hfit] at hj
        have HN := Aside0.mk (show allRel most (l.take (k + 1)) ([], [[]]) = some (uni acc.1 x.f0, joinRows acc.1 acc.2 x.f0 x.f1) from by rw [HRX.out.2.2, if_pos hfit])
        have hrt' := rt_join HA.out.2.1 HRX.out.2.1.1 (by have := HA.out.2.2; have := HRX.out.2.1.2; have : 1000 * k ≤ 1000 * 1000 := Nat.mul_le_mul (Nat.le_refl _) (by omega); omega) (by omega)
        have hul := uni_len acc.1 x.f0
        have HRT := Aside0.mk (And.intro hrt' (show (uni acc.1 x.f0).length ≤ 1000 * (k + 1) by have := HA.out.2.2; have := HRX.out.2.1.2; omega))
        generalize uni acc.1 x.f0 = U at hj HN HRT
        generalize joinRows acc.1 acc.2 x.f0 x.f1 = J at hj HN HRT
        clear hrt' hul
        go_wp2_with (go_at_call 14; refine hj.mono ?_; rintro e w3 ⟨A3, c3, D3, d3, rfl, hm3, hb3⟩; have hk3 := (hb3.block _ (by simp; omega)).trans HQA.out; have p0 := blk2_c0 hk3; have p1 := blk_fr (i := 0) hk3; have hs0 := blk2_s0 hk3 (.slice A3 U.length c3); have p2 := blk2_c1 hs0; have p3 := blk_fr (i := 1) hs0; have HJ := Aside0.mk (And.intro hm3 (And.intro hb3 hk3)); clear hm3 hb3 hk3 hs0)
        go_roundw
        case measure => simp [intOf]; omega
        case rel =>
          have hb03 := below_then (below_alloc HO.out.2.1 (.cells #[.slice Bx x.f0.length bx, .slice Dx x.f1.length dx] 27)) (by have := HO.out.2.1.size; simp; omega) HJ.out.2.1
          refine ⟨k + 1, A3, c3, D3, d3, (U, J), by omega, by go_num, ⟨HN.out, HRT.out.1, HRT.out.2⟩, ⟨⟨blk2_two HJ.out.2.2 _ _, (((HJ.out.1.far (p := ⟨g, 0, none⟩) (by simp; omega) _).far (p := ⟨g, 1, none⟩) (by simp; omega) _).lower (by simp; omega))⟩, (hb03.setCell (p := ⟨g, 0, none⟩) (Nat.le_of_lt hgw) _).setCell (p := ⟨g, 1, none⟩) (Nat.le_of_lt hgw) _, ?_⟩⟩
          have hzr := (Array.getElem?_eq_some_iff.1 HO.out.2.2).1
          exact (Below.heap_setCell _ _ _ _ (by simp; omega)).trans ((Below.heap_setCell _ _ _ _ (by simp; omega)).trans ((HJ.out.2.1.block _ (by simp; omega)).trans ((Below.heap_alloc wr _ _ hzr).trans HO.out.2.2)))
      · rw [show joinAt acc.1 acc.2 x.f0 x.f1 most = ([], []) from if_neg hfit, show joinEr acc.1 acc.2 x.f0 x.f1 most = 9 from if_neg hfit] at hj
        have HN := Aside0.mk (show allRel most l ([], [[]]) = none from allRel_none most l (k + 1) _ (by rw [HRX.out.2.2, if_neg hfit]))
        go_wp2_with (go_at_call 14; refine hj.mono ?_; rintro e w3 ⟨A3, c3, D3, d3, rfl, hm3, hb3⟩; have hk3 := (hb3.block _ (by simp; omega)).trans HQA.out; have p0 := blk2_c0 hk3; have p1 := blk_fr (i := 0) hk3; have hs0 := blk2_s0 hk3 (.slice A3 0 c3); have p2 := blk2_c1 hs0; have p3 := blk_fr (i := 1) hs0; have hzr := (Array.getElem?_eq_some_iff.1 HO.out.2.2).1; have hz3 := (hb3.block _ (by simp; omega)).trans ((Below.heap_alloc wr _ _ hzr).trans HO.out.2.2); have hz4 := (Below.heap_setCell ((w3.setCell ⟨g, 0, none⟩ (.slice A3 0 c3))) ⟨g, 1, none⟩ (.slice D3 0 d3) w.heap.size (by simp; omega)).trans ((Below.heap_setCell w3 ⟨g, 0, none⟩ (.slice A3 0 c3) w.heap.size (by simp; omega)).trans hz3); have p4 := blk2_c0 hz4; have p5 := blk_fr (i := 0) hz4; have hs4 := blk2_s0 hz4 (.slice none 0 0); have p6 := blk2_c1 hs4; have p7 := blk_fr (i := 1) hs4; have hs5 := blk2_s1 hs4 (.slice none 0 0); have p8 := blk2_c0 hs5; have p9 := blk2_c1 hs5; have hb03 := below_then (below_alloc HO.out.2.1 (.cells #[.slice Bx x.f0.length bx, .slice Dx x.f1.length dx] 27)) (by have := HO.out.2.1.size; simp; omega) hb3; have HJ := Aside0.mk (((hb03.setCell (p := ⟨g, 0, none⟩) (Nat.le_of_lt hgw) (.slice A3 0 c3)).setCell (p := ⟨g, 1, none⟩) (Nat.le_of_lt hgw) (.slice D3 0 d3)).setCell (p := ⟨w.heap.size, 0, none⟩) (Nat.le_refl _) (.slice none 0 0)); clear hm3 hb3 hk3 hs0 hzr hz3 hz4 hs4 hs5 hb03)
        refine bodyPost_ret (v := .tuple #[.agg #[.slice none 0 0, .slice none 0 0], .int .i64 9]) (by simp [results, Tryd.results20, go_sem, p8, p9]) rfl ?_
        have e1 : allTo most l = ([], []) := by rw [allTo, HN.out]; rfl
        have e2 : allErr most l = 9 := by rw [allErr, HN.out]; rfl
        rw [e1, e2]
        exact ⟨none, 0, none, 0, rfl, ⟨Kd.C_nil _ _, Nat.le_refl _, Kd.C_nil _ _, Nat.le_refl _⟩, HJ.out.setCell (p := ⟨w.heap.size, 1, none⟩) (Nat.le_refl _) _⟩
    · have hke : k = l.length := by omega
      subst hke
      rw [List.take_length] at HA
      have e1 : allTo most l = acc := by rw [allTo, HA.out.1]; rfl
      have e2 : allErr most l = 0 := by rw [allErr, HA.out.1]; rfl
      have HE := Aside0.mk (And.intro e1 e2)
      clear e1 e2
      have hz4 := HO.out.2.2
      have p4 := blk2_c0 hz4
      have p5 := blk_fr (i := 0) hz4
      have hs4 := blk2_s0 hz4 (.slice A acc.1.length c)
      have p6 := blk2_c1 hs4
      have p7 := blk_fr (i := 1) hs4
      have hs5 := blk2_s1 hs4 (.slice D acc.2.length d)
      have p8 := blk2_c0 hs5
      have p9 := blk2_c1 hs5
      clear hz4 hs4 hs5
      go_wp2
      refine bodyPost_ret (v := .tuple #[.agg #[.slice A acc.1.length c, .slice D acc.2.length d], .int .i64 0]) (by simp [results, Tryd.results20, go_sem, p8, p9]) rfl ?_
      rw [HE.out.1, HE.out.2]
      refine ⟨A, c, D, d, rfl, ?_, (HO.out.2.1.setCell (p := ⟨w.heap.size, 0, none⟩) (Nat.le_refl _) _).setCell (p := ⟨w.heap.size, 1, none⟩) (Nat.le_refl _) _⟩
      exact RelM.rd' ((HO.out.1.2.far (p := ⟨w.heap.size, 0, none⟩) (Nat.lt_succ_self _) _).far (p := ⟨w.heap.size, 1, none⟩) (Nat.lt_succ_self _) _)
end Go.Proofs.YtnmonjincnlhiaaDoor.G
