/- Many parts made small; all of them joined: the program's All and the document's. -/
import Derived.Test.YtnmonjincnlhiaaDoorDocJ
set_option linter.unusedVariables false
set_option linter.unusedSimpArgs false
namespace Go.Proofs.YtnmonjincnlhiaaDoor.G
open Go.RowKit Go.Proofs.YtnmonjincnlhiaaDoorW.PrintWords Go.Proofs.YtnmonjincnlhiaaDoorW.PrintLast Go.Proofs.YtnmonjincnlhiaaDoorW.PrintMore Go.Proofs.YtnmonjincnlhiaaDoor.PRefs

/-- What parts makes. -/
def partsOf (l : List S25) : List S27 := (l.take 5).map fun p => ⟨smallS3 p.f0, smallRows3 (smallS3 p.f0).length p.f1⟩
theorem partsOf_sm (l : List S25) : ∀ r ∈ partsOf l, Sm r.f0 r.f1 := fun r hr => by
  obtain ⟨p, _, rfl⟩ := List.mem_map.1 hr
  exact sm_small p.f0 p.f1
theorem partsOf_len (l : List S25) : (partsOf l).length ≤ 5 := by unfold partsOf; rw [List.length_map, List.length_take]; omega
theorem getD_P (l : List S25) (k : Nat) (h : k < l.length) : rd_T25 l (k : Int) = l[k] := by
  unfold rd_T25
  rw [Int.toNat_natCast, List.getD_eq_getElem?_getD, List.getElem?_eq_getElem h]; rfl
theorem parts_l0 (l : List S25) : ∀ n i k (x : List S27), i + n = (l.take 5).length → 5000 + n ≤ k → x.length ≤ 5 → x.length + n ≤ 5 → arboristlaw03_parts.l0 k l x (i : Int) = some (x ++ partsOf (l.drop i |>.take n))
  | n, i, 0, _, _, h, _, _ => by omega
  | 0, i, k + 1, x, h, _, _, _ => by
    rw [List.length_take] at h
    unfold arboristlaw03_parts.l0
    by_cases hc : i < l.length
    · rw [if_pos (by omega), if_neg (by omega)]; simp [partsOf]
    · rw [if_neg (by omega)]; simp [partsOf]
  | n + 1, i, k + 1, x, h, hk, hx, hxn => by
    have h' := h
    rw [List.length_take] at h'
    have hi : i < l.length := by omega
    unfold arboristlaw03_parts.l0
    rw [if_pos (by omega), if_pos (by omega), if_pos (by omega), getD_P l i hi, Small3_f _ _ k (by omega)]
    simp only [Option.bind_some]
    rw [if_pos (by omega), w1 i (by omega), parts_l0 l n (i + 1) k _ (by omega) (by omega) (by simp; omega) (by simp; omega), drop_get l i hi, List.take_succ_cons]
    rw [List.append_assoc]
    congr 2
    unfold partsOf
    have e1 : (List.take n (List.drop (i + 1) l)).take 5 = List.take n (List.drop (i + 1) l) := List.take_of_length_le (by rw [List.length_take]; omega)
    have e2 : (l[i] :: List.take n (List.drop (i + 1) l)).take 5 = l[i] :: List.take n (List.drop (i + 1) l) := List.take_of_length_le (by rw [List.length_cons, List.length_take]; omega)
    rw [e1, e2, List.map_cons]; rfl
theorem parts_f (l : List S25) : arboristlaw03_parts.f 6000 l = some (partsOf l) := by
  unfold arboristlaw03_parts.f
  have hl : (l.take 5).length ≤ 5 := by rw [List.length_take]; omega
  have := parts_l0 l (l.take 5).length 0 6000 [] (by omega) (by omega) (by simp) (by simpa using hl)
  rw [show ((0 : Nat) : Int) = 0 from rfl] at this
  rw [this, List.nil_append, List.drop_zero]
  congr 1
  unfold partsOf
  congr 1
  rw [List.take_take, List.length_take]
  by_cases h : l.length ≤ 5
  · rw [List.take_of_length_le (by omega), List.take_of_length_le h]
  · rw [show min 5 (min 5 l.length) = 5 by omega]
theorem allRel_rt (most : Int) (hmo : most ≤ 4000) : ∀ (l : List S27) (acc r : List Int × List (List Int)), (∀ q ∈ l, Sm q.f0 q.f1) → Rt acc.1 acc.2 → acc.1.length + 3 * l.length ≤ 300 → acc.2.length ≤ 4000 → allRel most l acc = some r → Rt r.1 r.2 ∧ r.1.length ≤ 300 ∧ r.2.length ≤ 4000
  | [], acc, r, _, ha, hs, hl, h => by
    obtain rfl := Option.some.inj h
    exact ⟨ha, by simp at hs; omega, hl⟩
  | q :: l, acc, r, hq, ha, hs, hl, h => by
    have hm := hq q List.mem_cons_self
    have hms := hm.s
    rw [List.length_cons] at hs
    rw [allRel] at h
    split at h
    · rename_i hc
      have hul := uni_len acc.1 q.f0
      exact allRel_rt most hmo l _ r (fun x hx => hq x (List.mem_cons_of_mem _ hx)) (rt_join ha hm.rt (by omega) (by omega)) (show (uni acc.1 q.f0).length + 3 * l.length ≤ 300 by omega) (show (joinRows acc.1 acc.2 q.f0 q.f1).length ≤ 4000 by omega) h
    · cases h
section
variable {w : World} {A0 : Option Addr} {c0 : Nat}
theorem parts_is {l : List S25} (hr0 : Kd.C k25 w A0 l.length l) (hc0 : l.length ≤ c0) {P : List S27} (hF : arboristlaw03_parts.f 6000 l = some P) :
    Calls Tryd.prog 19 #[.slice A0 l.length c0] w fun e w' => ∃ A c, e = .returned (.slice A P.length c) ∧ (P.length ≤ c ∧ Kd.C k27 w' A P.length P) ∧ Below w.heap.size w w' := by
  refine (arboristlaw03_parts.calls 6000 A0 c0 l P w hr0 hc0 hF).mono ?_
  rintro e w' ⟨v0, rfl, hN, hb⟩
  obtain ⟨A, c, rfl, hl, hC⟩ := Kd.N_reads hN
  exact ⟨A, c, rfl, ⟨hl, hC⟩, hb⟩
theorem all_n {l : List S27} {most : Int} (hr0 : Kd.C k27 w A0 l.length l) (hl : l.length ≤ 5) (hrt : ∀ r ∈ l, Sm r.f0 r.f1) (hm : most ≤ 4000) (htab : Tab w) {U : List Int} {J : List (List Int)} {n : Int} (hT : allTo most l = (U, J)) (hE : allErr most l = n) :
    Calls Tryd.prog 20 #[.slice A0 l.length c0, .int .i64 most] w fun e w' => RelOk w w' e U J n := by
  have := all_any A0 c0 l most w hr0 (by omega) (fun r hr => ⟨(hrt r hr).rt, by have := (hrt r hr).s; omega⟩) (by omega) htab
  rw [hT, hE] at this
  exact this
theorem docall_is {l : List S27} {most : Int} (hr0 : Kd.C k27 w A0 l.length l) (hc0 : l.length ≤ c0) {U : List Int} {J : List (List Int)} {b : Bool} (hF : arboristref03_All.f 40000000000 l most = some (U, J, b)) :
    Calls Tryd.prog 21 #[.slice A0 l.length c0, .int .i64 most] w fun e w' => ∃ A c D d, e = .returned (.tuple #[.agg #[.slice A U.length c, .slice D J.length d], .bool b]) ∧ RelRd w' A c U D d J ∧ Below w.heap.size w w' := by
  refine (arboristref03_All.calls 40000000000 A0 c0 l most U J b w hr0 hc0 hF).mono ?_
  rintro e w' ⟨v0, v1, rfl, hR, hN, hb⟩
  obtain ⟨A3, c3, rfl, hl3, hr3⟩ := Kd.R_reads hR
  obtain ⟨A4, c4, rfl, hl4, hr4⟩ := Kd.N_reads hN
  exact ⟨A3, c3, A4, c4, rfl, ⟨hr3, hl3, hr4, hl4⟩, hb⟩
theorem docsame_is {A : Option Addr} {c : Nat} {sc : List Int} {A' : Option Addr} {c' : Nat} {L : List (List Int)} {B : Option Addr} {d : Nat} {B' : Option Addr} {d' : Nat} (h : RelRd w A c sc A' c' L) (h' : RelRd w B d sc B' d' L) (hs : sc.length ≤ 300) (hl : L.length ≤ 4000) (hx : ∀ x ∈ L, x.length = sc.length) :
    Calls Tryd.prog 22 #[.agg #[.slice A sc.length c, .slice A' L.length c'], .agg #[.slice B sc.length d, .slice B' L.length d']] w fun e w' => e = .returned (.bool true) ∧ Below w.heap.size w w' :=
  arboristref02_Same.calls 5000000 A c sc A' c' L B d sc B' d' L true w h.row h.cap h.rows h.cap2 h'.row h'.cap h'.rows h'.cap2 (by rw [Same_f sc sc L L 5000000 (by omega) (by omega) (by omega) (fun x hy => by rw [hx x hy]; omega) (fun x hy => by rw [hx x hy]; omega) (Nat.le_refl _)]; simp)
end
end Go.Proofs.YtnmonjincnlhiaaDoor.G
