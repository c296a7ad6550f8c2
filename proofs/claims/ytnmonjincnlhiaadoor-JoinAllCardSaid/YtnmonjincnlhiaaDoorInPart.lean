/- A part that comes in: its box, what it reads as; what small makes of it. -/
import Derived.Test.YtnmonjincnlhiaaDoorLaid
set_option linter.unusedVariables false
set_option linter.unusedSimpArgs false
namespace Go.Proofs.YtnmonjincnlhiaaDoor.G
open Go.RowKit Go.ChangeShapes Go.WideShapes Go.ChangeAt Go.Deep Go.Proofs.YtnmonjincnlhiaaDoorW.PrintWords Go.Proofs.YtnmonjincnlhiaaDoorW.PrintLast Go.Proofs.YtnmonjincnlhiaaDoorW.PrintMore Go.Proofs.YtnmonjincnlhiaaDoor.PRefs

/-- A part in a box. -/
structure PtBx (W : World) (g : Nat) (A : Option Addr) (c : Nat) (sc : List Int) (A' : Option Addr) (c' : Nat) (L : List (List Int)) : Prop where
  blk : W.heap[g]? = some (.cells #[.slice A sc.length c, .slice A' L.length c'] 25 (0, 0))
  rd : RelRd W A c sc A' c' L
theorem PtBx.step {W W1 : World} {g : Nat} {A : Option Addr} {c : Nat} {sc : List Int} {A' : Option Addr} {c' : Nat} {L : List (List Int)} (h : PtBx W g A c sc A' c' L) (hb : Below W.heap.size W W1) : PtBx W1 g A c sc A' c' L :=
  ⟨(hb.block _ (Array.getElem?_eq_some_iff.1 h.blk).1).trans h.blk, h.rd.step hb⟩
theorem inR_md {v q : Int} (h : 0 ≤ md v q ∧ md v q < q) (hq : q ≤ 100) : -9223372036854775808 ≤ md v q ∧ md v q ≤ 9223372036854775807 := by omega
theorem smallRow_in (n : Nat) (row : List Int) : ∀ x ∈ smallRow n row, 0 ≤ x ∧ x ≤ 2 := fun x hx => by
  unfold smallRow at hx
  obtain ⟨q, _, rfl⟩ := List.mem_map.1 hx
  split
  · have := md_pos (rd row q) 3 (by omega); omega
  · omega
theorem small3_in (n : Nat) (L : List (List Int)) : InR (smallRows3 n L) := fun t ht x hx => by
  unfold smallRows3 at ht
  rw [Pl.mem_sortU] at ht
  obtain ⟨r, _, rfl⟩ := List.mem_map.1 ht
  have := smallRow_in n r x hx
  omega
/-- What small makes is right, and small. -/
structure Sm (sc : List Int) (L : List (List Int)) : Prop where
  rt : Rt sc L
  s : sc.length ≤ 3
  l : L.length ≤ 12
theorem sm_small (sch : List Int) (L : List (List Int)) : Sm (smallS3 sch) (smallRows3 (smallS3 sch).length L) := by
  have h1 := smallS3_len sch
  have h2 := smallRows3_len (smallS3 sch).length L
  exact ⟨⟨right_small3 sch L, by omega, by omega, small3_in _ _⟩, h1, h2⟩
theorem Sm.sz {sc : List Int} {L : List (List Int)} (h : Sm sc L) : Sz sc L := ⟨by have := h.s; omega, by have := h.l; omega, fun x hx => by rw [h.rt.r.2.1 x hx]; have := h.s; omega⟩
theorem Rt.semi {sc : List Int} {L : List (List Int)} (h : Rt sc L) (sd : List Int) (M : List (List Int)) : Rt sc (semiRows sc L sd M) :=
  ⟨right_semi h.r sd M, h.s, Nat.le_trans (List.length_filter_le _ _) h.l, inR_filter h.i _⟩
theorem Rt.proj {sc : List Int} {L : List (List Int)} (h : Rt sc L) (vars : List Int) : Rt (projRel sc L vars).1 (projRel sc L vars).2 := by
  refine ⟨right_proj h.r vars, ?_, Nat.le_trans (cutRows_len _ _ _) h.l, inR_cut h.i _⟩
  have e : (projRel sc L vars).1 = onto sc vars := rfl
  rw [e, onto_eq sc vars h.r.1.1]
  exact Nat.le_trans (List.length_filter_le _ _) h.s
theorem sm_join {sc sd : List Int} {L M : List (List Int)} (h : Sm sc L) (h' : Sm sd M) : (joinRows sc L sd M).length ≤ 144 :=
  Nat.le_trans (join_len_le sc L sd M) (Nat.mul_le_mul h.l h'.l)
theorem rt_smjoin {sc sd : List Int} {L M : List (List Int)} (h : Sm sc L) (h' : Sm sd M) : Rt (uni sc sd) (joinRows sc L sd M) :=
  rt_join h.rt h'.rt (by have := h.s; have := h'.s; omega) (by have := sm_join h h'; omega)
theorem joinAt_fits {sc sd : List Int} {L M : List (List Int)} {most : Int} (h : ((joinRows sc L sd M).length : Int) ≤ most) : joinAt sc L sd M most = (uni sc sd, joinRows sc L sd M) ∧ joinEr sc L sd M most = 0 := ⟨if_pos h, if_pos h⟩

/-- A part that came in. -/
theorem slice_of {H : Type} {enc : TypeId × Value → H} {W : World} {base : Nat} {held : Bool} {v : Value} {x : DataW H × List MemPlace} {fuel : Nat} {t e : Nat} (ht : Tryd.prog.underlying t = some (.slice e))
    (h : DataW.trod enc Tryd.prog W base (fun _ => true) held fuel t [v] = some x) : ∃ a len cap, v = .slice a len cap := by
  rcases Go.Deep.open_slice ht h with h1 | h1
  · simp at h1; exact ⟨_, _, _, h1.1⟩
  · obtain ⟨a, len, cap, h2⟩ : ∃ a len cap, [v] = [Value.slice a len cap] := by
      obtain ⟨ad, l, c, _, _, _, _, h3, _⟩ := h1
      exact ⟨_, _, _, h3⟩
    simp at h2
    exact ⟨a, len, cap, h2⟩
set_option maxRecDepth 100000 in
theorem in_part {H : Type} {enc : TypeId × Value → H} {W : World} {base : Nat} {held : Bool} {cs : Array Value} {x : DataW H × List MemPlace} {fuel : Nat}
    (h : DataW.trod enc Tryd.prog W base (fun _ => true) held fuel 25 (Value.agg cs).cells.toList = some x) :
    ∃ A c sc A' c' L, cs = #[.slice A sc.length c, .slice A' L.length c'] ∧ RelRd W A c sc A' c' L := by
  have e : (Value.agg cs).cells.toList = cs.toList := by simp [Value.cells]
  rw [e] at h
  obtain ⟨y0, y1, n, _, hl, h0, h1⟩ := Go.ChangeShapes.trod_struct2 Tryd.underlying25 h
  have c1 : Tryd.prog.cellsOf 25 = 2 := by kernel_rfl
  have c2 : Tryd.prog.cellsOf 22 = 1 := by kernel_rfl
  have c3 : Tryd.prog.cellsOf 23 = 1 := by kernel_rfl
  rw [c1] at hl
  obtain ⟨l⟩ := cs
  match l, hl with
  | [a, b], _ =>
    replace h0 : DataW.trod enc Tryd.prog W base (fun _ => true) held n 22 [a] = some y0 := by
      have h2 : DataW.trod enc Tryd.prog W base (fun _ => true) held n 22 (([a, b].drop 0).take (Tryd.prog.cellsOf 22)) = some y0 := h0
      rwa [c2] at h2
    replace h1 : DataW.trod enc Tryd.prog W base (fun _ => true) held n 23 [b] = some y1 := by
      have h2 : DataW.trod enc Tryd.prog W base (fun _ => true) held n 23 (([a, b].drop 1).take (Tryd.prog.cellsOf 23)) = some y1 := h1
      rwa [c3] at h2
    obtain ⟨a0, l0, c0, rfl⟩ := slice_of Tryd.underlying22 h0
    obtain ⟨a1, l1, c1, rfl⟩ := slice_of Tryd.underlying23 h1
    obtain ⟨xs, hx, hcx, hC⟩ := in_ints (a := a0) (len := l0) (cap := c0) h0
    obtain ⟨L, hL, hcL, hD⟩ := in_rows (a := a1) (len := l1) (cap := c1) h1
    subst hx hL
    exact ⟨a0, c0, xs, a1, c1, L, rfl, ⟨hC, hcx, hD, hcL⟩⟩


section
variable {w : World} {A : Option Addr} {c : Nat} {sc : List Int} {A' : Option Addr} {c' : Nat} {L : List (List Int)} {B : Option Addr} {d : Nat} {sd : List Int} {B' : Option Addr} {d' : Nat} {M : List (List Int)}
theorem join_ok (h : RelRd w A c sc A' c' L) (ht : Rt sc L) (h' : RelRd w B d sd B' d' M) (ht' : Rt sd M) {most : Int} (htab : Tab w) {U : List Int} {J : List (List Int)} (hU : uni sc sd = U) (hJ : joinRows sc L sd M = J) (hm : (J.length : Int) ≤ most) :
    Calls Tryd.prog 14 #[.agg #[.slice A sc.length c, .slice A' L.length c'], .agg #[.slice B sd.length d, .slice B' M.length d'], .int .i64 most] w fun e w' => RelOk w w' e U J 0 := by
  subst hU hJ
  exact join_rt h ht h' ht' most htab (if_pos hm) (if_pos hm)
theorem join_no (h : RelRd w A c sc A' c' L) (ht : Rt sc L) (h' : RelRd w B d sd B' d' M) (ht' : Rt sd M) {most : Int} (htab : Tab w) (hm : ¬ ((joinRows sc L sd M).length : Int) ≤ most) :
    Calls Tryd.prog 14 #[.agg #[.slice A sc.length c, .slice A' L.length c'], .agg #[.slice B sd.length d, .slice B' M.length d'], .int .i64 most] w fun e w' => RelOk w w' e [] [] 9 :=
  join_rt h ht h' ht' most htab (if_neg hm) (if_neg hm)
theorem project_to {A2 : Option Addr} {c2 : Nat} {vars : List Int} (h : RelRd w A c sc A' c' L) (ht : Rt sc L) (hr2 : Kd.C KI w A2 vars.length vars) (hm2 : vars.length ≤ 10000000) {SC' : List Int} {L' : List (List Int)} (hP : projRel sc L vars = (SC', L')) :
    Calls Tryd.prog 16 #[.agg #[.slice A sc.length c, .slice A' L.length c'], .slice A2 vars.length c2] w fun e w' => RelTo w w' e SC' L' := project_rt h ht hr2 hm2 hP
theorem all_ok {A0 : Option Addr} {c0 : Nat} {l : List S27} {most : Int} (hr0 : Kd.C k27 w A0 l.length l) (hl : l.length ≤ 1000) (hrt : ∀ r ∈ l, Rt r.f0 r.f1 ∧ r.f0.length ≤ 1000) (hm : most ≤ 20000) (htab : Tab w) {U : List Int} {J : List (List Int)} (h : allRel most l ([], [[]]) = some (U, J)) :
    Calls Tryd.prog 20 #[.slice A0 l.length c0, .int .i64 most] w fun e w' => RelOk w w' e U J 0 := by
  have h1 := all_any A0 c0 l most w hr0 hl hrt hm htab
  have e1 : allTo most l = (U, J) := by rw [allTo, h]; rfl
  have e2 : allErr most l = 0 := by rw [allErr, h]; rfl
  rw [e1, e2] at h1
  exact h1
end
theorem nil_uni {sc : List Int} (h : Rise sc) : uni [] sc = sc := by rw [uni_comm List.Pairwise.nil h]; exact uni_nil h
theorem unit_join {sc : List Int} {L : List (List Int)} (h : RightP sc L) : joinRows [] [[]] sc L = L := by rw [join_comm right_unit h]; exact join_unit h
/-- Three joined. -/
theorem all3 {sa sb sc : List Int} {A B C : List (List Int)} (ha : Sm sa A) (hb : Sm sb B) (hc : Sm sc C) :
    allRel 10000 [⟨sa, A⟩, ⟨sb, B⟩, ⟨sc, C⟩] ([], [[]]) = some (uni (uni sa sb) sc, joinRows (uni sa sb) (joinRows sa A sb B) sc C) := by
  have h1 := ha.l
  have h2 := sm_join ha hb
  have h3 : (joinRows (uni sa sb) (joinRows sa A sb B) sc C).length ≤ 144 * 12 := Nat.le_trans (join_len_le _ _ _ _) (Nat.mul_le_mul h2 hc.l)
  simp only [allRel]
  rw [unit_join ha.rt.r, nil_uni ha.rt.r.1.1, if_pos (by omega), if_pos (by omega), if_pos (by omega)]
theorem lit_rels3 {w : World} {A : Option Addr} {c : Nat} {sa : List Int} {A' : Option Addr} {c' : Nat} {X : List (List Int)} {B : Option Addr} {d : Nat} {sb : List Int} {B' : Option Addr} {d' : Nat} {Y : List (List Int)} {C : Option Addr} {e : Nat} {sc : List Int} {C' : Option Addr} {e' : Nat} {Z : List (List Int)}
    (ha : RelRd w A c sa A' c' X) (hb : RelRd w B d sb B' d' Y) (hc : RelRd w C e sc C' e' Z) :
    Kd.C k27 (w.alloc (.cells #[.slice A sa.length c, .slice A' X.length c', .slice B sb.length d, .slice B' Y.length d', .slice C sc.length e, .slice C' Z.length e'] 27)) (some ⟨w.heap.size, 0, none⟩) 3 [⟨sa, X⟩, ⟨sb, Y⟩, ⟨sc, Z⟩] := by
  have hbl := below_alloc (Below.refl w.heap.size w) (.cells #[.slice A sa.length c, .slice A' X.length c', .slice B sb.length d, .slice B' Y.length d', .slice C sc.length e, .slice C' Z.length e'] 27)
  have hn := heap_alloc_new w (.cells #[.slice A sa.length c, .slice A' X.length c', .slice B sb.length d, .slice B' Y.length d', .slice C sc.length e, .slice C' Z.length e'] 27)
  have cell : ∀ j, j < 6 → (w.alloc (.cells #[.slice A sa.length c, .slice A' X.length c', .slice B sb.length d, .slice B' Y.length d', .slice C sc.length e, .slice C' Z.length e'] 27)).cell? ((⟨w.heap.size, 0, none⟩ : Addr).add j) = (#[.slice A sa.length c, .slice A' X.length c', .slice B sb.length d, .slice B' Y.length d', .slice C sc.length e, .slice C' Z.length e'] : Array Value)[j]? := fun j hj => by
    have ea : (⟨w.heap.size, 0, none⟩ : Addr).add j = ⟨w.heap.size, j, none⟩ := by unfold Addr.add; split <;> simp_all
    rw [ea, cell_of_row _ w.heap.size _ _ _ _ hn]
  refine ⟨rfl, by omega, fun _ => ⟨_, rfl, fun j p hj => ?_⟩⟩
  match j, hj with
  | 0, hj =>
    obtain rfl := Option.some.inj hj
    exact ⟨_, rfl, k27_mk _ ⟨sa, X⟩ ha.cap (ha.step hbl).row ha.cap2 (ha.step hbl).rows, fun i u hu => by
      match i, hu with
      | 0, hu => exact (cell 0 (by omega)).trans hu
      | 1, hu => exact (cell 1 (by omega)).trans hu⟩
  | 1, hj =>
    obtain rfl := Option.some.inj hj
    exact ⟨_, rfl, k27_mk _ ⟨sb, Y⟩ hb.cap (hb.step hbl).row hb.cap2 (hb.step hbl).rows, fun i u hu => by
      match i, hu with
      | 0, hu => exact (cell 2 (by omega)).trans hu
      | 1, hu => exact (cell 3 (by omega)).trans hu⟩
  | 2, hj =>
    obtain rfl := Option.some.inj hj
    exact ⟨_, rfl, k27_mk _ ⟨sc, Z⟩ hc.cap (hc.step hbl).row hc.cap2 (hc.step hbl).rows, fun i u hu => by
      match i, hu with
      | 0, hu => exact (cell 4 (by omega)).trans hu
      | 1, hu => exact (cell 5 (by omega)).trans hu⟩
theorem all3_is {w : World} {A : Option Addr} {c : Nat} {sa : List Int} {A' : Option Addr} {c' : Nat} {X : List (List Int)} {B : Option Addr} {d : Nat} {sb : List Int} {B' : Option Addr} {d' : Nat} {Y : List (List Int)} {C : Option Addr} {e : Nat} {sc : List Int} {C' : Option Addr} {e' : Nat} {Z : List (List Int)}
    (ha : RelRd w A c sa A' c' X) (hb : RelRd w B d sb B' d' Y) (hc : RelRd w C e sc C' e' Z) (sma : Sm sa X) (smb : Sm sb Y) (smc : Sm sc Z) (htab : Tab w) {U : List Int} {J : List (List Int)} (hU : uni (uni sa sb) sc = U) (hJ : joinRows (uni sa sb) (joinRows sa X sb Y) sc Z = J) {g : Nat} (hg : w.heap.size = g) :
    Calls Tryd.prog 20 #[.slice (some ⟨g, 0, none⟩) 3 3, .int .i64 10000] (w.alloc (.cells #[.slice A sa.length c, .slice A' X.length c', .slice B sb.length d, .slice B' Y.length d', .slice C sc.length e, .slice C' Z.length e'] 27)) fun e w' => RelOk w w' e U J 0 := by
  subst hU hJ hg
  refine (all_ok (c0 := 3) (lit_rels3 ha hb hc) (by simp) (fun r hr => ?_) (by omega) (htab.step (below_alloc (Below.refl _ _) _)) (all3 sma smb smc)).mono ?_
  · rcases List.mem_cons.1 hr with rfl | hr
    · exact ⟨sma.rt, by have := sma.s; show sa.length ≤ 1000; omega⟩
    · rcases List.mem_cons.1 hr with rfl | hr
      · exact ⟨smb.rt, by have := smb.s; show sb.length ≤ 1000; omega⟩
      · rcases List.mem_cons.1 hr with rfl | hr
        · exact ⟨smc.rt, by have := smc.s; show sc.length ≤ 1000; omega⟩
        · cases hr
  · rintro e w' ⟨A, c, D, d, rfl, hr, hb⟩
    exact ⟨A, c, D, d, rfl, hr, below_then (below_alloc (Below.refl _ _) _) (by simp) hb⟩
theorem at_le {W : World} {g a : Nat} {o : Obj} (hk : W.heap[g]? = some o) (h : a ≤ g) : a ≤ g := h
section
variable {w : World} {A : Option Addr} {c : Nat} {sc : List Int} {A' : Option Addr} {c' : Nat} {L : List (List Int)} {B : Option Addr} {d : Nat} {B' : Option Addr} {d' : Nat} {M : List (List Int)}
theorem union_m (h : RelRd w A c sc A' c' L) (ht : Rt sc L) (h' : RelRd w B d sc B' d' M) (ht' : Rt sc M) {R : List (List Int)} (hR : Pl.sortU (L ++ M) = R) :
    Calls Tryd.prog 18 #[.agg #[.slice A sc.length c, .slice A' L.length c'], .agg #[.slice B sc.length d, .slice B' M.length d']] w fun e w' => ∃ A2 c2 A3 c3, e = .returned (.tuple #[.agg #[.slice A2 sc.length c2, .slice A3 R.length c3], .int .i64 0]) ∧ RelM w' w.heap.size (.agg #[.slice A2 sc.length c2, .slice A3 R.length c3]) (sc, R) ∧ Below w.heap.size w w' := by
  subst hR
  have h1 := ht.s
  have h2 := ht.l
  have h3 := ht'.l
  refine (union_any A c sc A' c' L B d sc B' d' M w h.row h.rows h'.row h'.rows (by omega) (by omega) (by omega) (fun x hx => by have := ht.x x hx; omega) (fun x hx => by have := ht'.x x hx; omega)).mono ?_
  rintro e w' ⟨v, rfl, hv, hb⟩
  rw [unionRel, if_pos rfl] at hv
  obtain ⟨A, c, A', c', rfl, h⟩ := hv.of
  exact ⟨A, c, A', c', by rw [unionErr, if_pos rfl], h, hb⟩
theorem union_ok (h : RelRd w A c sc A' c' L) (ht : Rt sc L) (h' : RelRd w B d sc B' d' M) (ht' : Rt sc M) {R : List (List Int)} (hR : Pl.sortU (L ++ M) = R) :
    Calls Tryd.prog 18 #[.agg #[.slice A sc.length c, .slice A' L.length c'], .agg #[.slice B sc.length d, .slice B' M.length d']] w fun e w' => RelOk w w' e sc R 0 := by
  refine (union_m h ht h' ht' hR).mono ?_
  rintro e w' ⟨A, c, D, d, rfl, hm, hb⟩
  exact ⟨A, c, D, d, rfl, RelM.rd' hm, hb⟩
theorem rt_union {sc : List Int} {L M : List (List Int)} (h : Rt sc L) (h' : Rt sc M) (hl : L.length + M.length ≤ 20000) : Rt sc (Pl.sortU (L ++ M)) :=
  ⟨right_union h.r h'.r, h.s, by have := Pl.sortU_length_le (L ++ M); rw [List.length_append] at this; omega, inR_sort (inR_append h.i h'.i)⟩
end
end Go.Proofs.YtnmonjincnlhiaaDoor.G
