/- Several texts of this claim in one. -/
import Derived.Test.YtgpbhmcmbigbdaaDoorMP
import Derived.Test.YtgpbhmcmbigbdaaDoorBox
import Derived.Test.YtgpbhmcmbigbdaaDoorRows
import Derived.Deep.Matrix
import Derived.ProofKit
import Derived.OpenShut
import Derived.WalkKit
import Derived.LaidMore
import Derived.LaidSub
import Derived.LaidHandle
import Derived.MakeChecks
import Derived.Stop.Joined
import Derived.Lib.LaidTab
/- The join laws' shown: a small case that must work. -/
set_option linter.unusedVariables false
set_option linter.unusedSimpArgs false
namespace Go.Proofs.YtgpbhmcmbigbdaaDoor.G
open Go.RowKit Go.Proofs.YtgpbhmcmbigbdaaDoorW.PrintWords Go.Proofs.YtgpbhmcmbigbdaaDoorW.PrintLast Go.Proofs.YtgpbhmcmbigbdaaDoorW.PrintMore Go.Proofs.YtgpbhmcmbigbdaaDoor.PRefs

theorem s3_uni : uni [0] [1] = [0, 1] := by simp [uni, merge]
theorem s3_rows : joinRows [0] [[1], [2]] [1] [[5]] = [[1, 5], [2, 5]] := by unfold joinRows bothRow; rw [s3_uni]; decide
theorem s3_j2 : joinAt [0] [[1], [2]] [1] [[5]] 2 = ([0, 1], [[1, 5], [2, 5]]) := by rw [joinAt, s3_rows, s3_uni]; rfl
theorem s3_e2 : joinEr [0] [[1], [2]] [1] [[5]] 2 = 0 := by rw [joinEr, s3_rows]; rfl
theorem s3_j1 : joinAt [0] [[1], [2]] [1] [[5]] 1 = ([], []) := by rw [joinAt, s3_rows, s3_uni]; rfl
theorem s3_e1 : joinEr [0] [[1], [2]] [1] [[5]] 1 = 9 := by rw [joinEr, s3_rows]; rfl
theorem s3_semi : semiRows [0] [[1], [2]] [0] [[2]] = [[2]] := by decide
theorem s3_p1 : projRel [0] [[1], [2]] [0] = ([0], [[1], [2]]) := proj_self (by decide)
theorem s3_p2 : projRel [0] [[2]] [0] = ([0], [[2]]) := proj_self (by decide)
theorem s3_no : decide (projRel [0] [[1], [2]] [0] = projRel [0] [[2]] [0]) = false := by rw [s3_p1, s3_p2]; decide
theorem s3_o1 : onto [0] [1] = [] := by rw [onto_eq _ _ (by decide)]; decide
theorem s3_o2 : onto [1] [0] = [] := by rw [onto_eq _ _ (by decide)]; decide
theorem s3_yes : decide (projRel [0] [[1], [2]] [1] = projRel [1] [[5]] [0]) = true := by
  rw [projRel, projRel, s3_o1, s3_o2]; decide
theorem s3_ra : Rt [0] [[1], [2]] := ⟨by decide, by simp, by simp, by simp [InR]⟩
theorem s3_rb : Rt [1] [[5]] := ⟨by decide, by simp, by simp, by simp [InR]⟩
theorem s3_rs : Rt [0] [[2]] := ⟨by decide, by simp, by simp, by simp [InR]⟩
theorem lit_ints1 (w : World) (x : Int) : Kd.C KI (w.alloc (.cells #[.int .i64 x] 3)) (some ⟨w.heap.size, 0, none⟩) 1 [x] := lit_ints w [x] (by simp)
theorem rd_lit1 {w : World} {x y : Int} {W : World} (hW : ((w.alloc (.cells #[.int .i64 x] 3)).alloc (.cells #[.int .i64 y] 3)).alloc (.cells #[.slice (some ⟨w.heap.size + 1, 0, none⟩) 1 1] 25) = W) :
    RelRd W (some ⟨w.heap.size, 0, none⟩) 1 [x] (some ⟨w.heap.size + 1 + 1, 0, none⟩) 1 [[y]] ∧ Below w.heap.size w W := by
  subst hW
  have h1 := lit_ints1 w x
  have h2 := lit_ints1 (w.alloc (.cells #[.int .i64 x] 3)) y
  have h3 := lit_rows1 (c := 1) h2 (by simp)
  rw [World.size_alloc] at h3
  simp only [World.size_alloc, List.length_singleton] at h3
  exact ⟨⟨Kd.C_below (Kd.C_below h1 (below_alloc (Below.refl _ _) _)) (below_alloc (Below.refl _ _) _), Nat.le_refl _, h3, Nat.le_refl _⟩, below_alloc (below_alloc (below_alloc (Below.refl _ _) _) _) _⟩
theorem rd_lit2 {w : World} {x y z : Int} {W : World} (hW : (((w.alloc (.cells #[.int .i64 x] 3)).alloc (.cells #[.int .i64 y] 3)).alloc (.cells #[.int .i64 z] 3)).alloc (.cells #[.slice (some ⟨w.heap.size + 1, 0, none⟩) 1 1, .slice (some ⟨w.heap.size + 1 + 1, 0, none⟩) 1 1] 25) = W) :
    RelRd W (some ⟨w.heap.size, 0, none⟩) 1 [x] (some ⟨w.heap.size + 1 + 1 + 1, 0, none⟩) 2 [[y], [z]] ∧ Below w.heap.size w W := by
  subst hW
  have h1 := lit_ints1 w x
  have h2 := Kd.C_below (lit_ints1 (w.alloc (.cells #[.int .i64 x] 3)) y) (below_alloc (Below.refl _ _) (.cells #[.int .i64 z] 3))
  have h2' := lit_ints1 ((w.alloc (.cells #[.int .i64 x] 3)).alloc (.cells #[.int .i64 y] 3)) z
  have h3 := lit_rows2 (c := 1) (d := 1) h2 (by simp) h2' (by simp)
  simp only [World.size_alloc, List.length_singleton] at h3
  exact ⟨⟨Kd.C_below (Kd.C_below (Kd.C_below h1 (below_alloc (Below.refl _ _) _)) (below_alloc (Below.refl _ _) _)) (below_alloc (Below.refl _ _) _), Nat.le_refl _, h3, Nat.le_refl _⟩, below_alloc (below_alloc (below_alloc (below_alloc (Below.refl _ _) _) _) _) _⟩

section
variable {W : World} {A : Option Addr} {c : Nat} {A' : Option Addr} {c' : Nat} {B : Option Addr} {d : Nat} {B' : Option Addr} {d' : Nat}
theorem s3_semi2 (h : RelRd W A c [0] A' c' [[1], [2]]) (h' : RelRd W B d [0] B' d' [[2]]) (ht : Tab W) :
    Calls Tryd.prog 23 #[.agg #[.slice A 1 c, .slice A' 2 c'], .agg #[.slice B 1 d, .slice B' 1 d']] W fun e w' => ∃ A c D d, e = .returned (.agg #[.slice A 1 c, .slice D 1 d]) ∧ RelRd w' A c [0] D d [[2]] ∧ Below W.heap.size W w' := by
  refine (semi_rt h s3_ra h' s3_rs ht s3_semi).mono ?_
  rintro e w' ⟨A, c, D, d, rfl, hr, hb⟩
  exact ⟨A, c, D, d, rfl, hr, hb⟩
theorem s3_agree0 (h : RelRd W A c [0] A' c' [[1], [2]]) (h' : RelRd W B d [0] B' d' [[2]]) :
    Calls Tryd.prog 19 #[.agg #[.slice A 1 c, .slice A' 2 c'], .agg #[.slice B 1 d, .slice B' 1 d']] W fun e w' => e = .returned (.bool false) ∧ Below W.heap.size W w' := agree_rt h s3_ra h' s3_rs false s3_no
theorem s3_agree1 (h : RelRd W A c [0] A' c' [[1], [2]]) (h' : RelRd W B d [1] B' d' [[5]]) :
    Calls Tryd.prog 19 #[.agg #[.slice A 1 c, .slice A' 2 c'], .agg #[.slice B 1 d, .slice B' 1 d']] W fun e w' => e = .returned (.bool true) ∧ Below W.heap.size W w' := agree_rt h s3_ra h' s3_rb true s3_yes
end

/-- What stays in shown: two relations' boxes. -/
structure Sh3 (w : World) (A : Option Addr) (c : Nat) (A' : Option Addr) (c' : Nat) (g : Nat) (B : Option Addr) (d : Nat) (B' : Option Addr) (d' : Nat) (g' : Nat) (W : World) : Prop where
  bel : Below w.heap.size w W
  a : RelBx W g A c [0] A' c' [[1], [2]]
  b : RelBx W g' B d [1] B' d' [[5]]
theorem Sh3.step {w W W1 : World} {A : Option Addr} {c : Nat} {A' : Option Addr} {c' : Nat} {g : Nat} {B : Option Addr} {d : Nat} {B' : Option Addr} {d' g' : Nat} (h : Sh3 w A c A' c' g B d B' d' g' W) (hb : Below W.heap.size W W1) : Sh3 w A c A' c' g B d B' d' g' W1 :=
  ⟨below_then h.bel h.bel.size hb, h.a.step hb, h.b.step hb⟩

end Go.Proofs.YtgpbhmcmbigbdaaDoor.G

/- The join laws' small, as the print tells it: what it computes; it is right. -/
set_option linter.unusedVariables false
set_option linter.unusedSimpArgs false
namespace Go.Proofs.YtgpbhmcmbigbdaaDoor.G
open Go.RowKit Go.Proofs.YtgpbhmcmbigbdaaDoorW.PrintWords Go.Proofs.YtgpbhmcmbigbdaaDoorW.PrintLast Go.Proofs.YtgpbhmcmbigbdaaDoorW.PrintMore Go.Proofs.YtgpbhmcmbigbdaaDoor.PRefs

def smallS3 (l : List Int) : List Int := (l.take 3).foldl (fun s v => uni1 s (md v 5)) []
def smallRows3 (n : Nat) (rows : List (List Int)) : List (List Int) := Pl.sortU ((rows.take 12).map (smallRow n))
theorem foldl_uni3 (l s : List Int) : (l.foldl (fun s v => uni1 s (md v 5)) s).length ≤ s.length + l.length ∧ (Rise s → Rise (l.foldl (fun s v => uni1 s (md v 5)) s)) ∧ ∀ x, x ∈ l.foldl (fun s v => uni1 s (md v 5)) s → x ∈ s ∨ ∃ v, x = md v 5 := by
  induction l generalizing s with
  | nil => exact ⟨Nat.le_refl _, id, fun x h => .inl h⟩
  | cons a l ih =>
    obtain ⟨h1, h2, h3⟩ := ih (uni1 s (md a 5))
    refine ⟨?_, fun h => h2 (uni1_rise _ _ h), fun x hx => ?_⟩
    · have := uni1_len s (md a 5)
      simp only [List.foldl_cons, List.length_cons]; omega
    · rcases h3 x hx with h | h
      · rcases (uni1_mem _ _ _).1 h with h | h
        · exact .inl h
        · exact .inr ⟨a, h⟩
      · exact .inr h
theorem smallS3_pos (l : List Int) : ∀ x ∈ smallS3 l, 0 ≤ x ∧ x < 5 := fun x hx => by
  rcases (foldl_uni3 (l.take 3) []).2.2 x hx with h | ⟨v, rfl⟩
  · simp at h
  · exact md_pos v 5 (by omega)
theorem smallS3_len (l : List Int) : (smallS3 l).length ≤ 3 := by
  have h := (foldl_uni3 (l.take 3) []).1
  have h2 : (l.take 3).length ≤ 3 := by simp; omega
  unfold smallS3
  simp only [List.length_nil] at h
  omega
theorem smallS3_rise (l : List Int) : Rise (smallS3 l) := (foldl_uni3 (l.take 3) []).2.1 List.Pairwise.nil
theorem smallRows3_up (n : Nat) (L : List (List Int)) : Pl.Up (smallRows3 n L) := Pl.sortU_up _
theorem smallRows3_len (n : Nat) (L : List (List Int)) : (smallRows3 n L).length ≤ 12 := by
  have := Pl.sortU_length_le ((L.take 12).map (smallRow n))
  unfold smallRows3
  simp only [List.length_map, List.length_take] at this
  omega
theorem smallRows3_row (n : Nat) (L : List (List Int)) : ∀ x ∈ smallRows3 n L, x.length = n := fun x hx => by
  unfold smallRows3 at hx
  rw [Pl.mem_sortU] at hx
  obtain ⟨t, _, rfl⟩ := List.mem_map.1 hx
  exact smallRow_len n t

theorem right_small3 (l : List Int) (L : List (List Int)) : RightP (smallS3 l) (smallRows3 (smallS3 l).length L) :=
  ⟨⟨smallS3_rise l, fun ⟨h, h'⟩ => by
    have := (smallS3_pos l (rd (smallS3 l) 0) (by rw [show (0 : Int) = ((0 : Nat) : Int) from rfl, rd_get _ 0 h]; exact List.getElem_mem h)).1
    omega⟩, smallRows3_row _ _, smallRows3_up _ _⟩
theorem right_none3 (l : List Int) : RightP (smallS3 l) [] := ⟨(right_small3 l []).1, by simp, List.Pairwise.nil⟩

theorem sz_small3 (sch : List Int) (rows : List (List Int)) : Sz (smallS3 sch) (smallRows3 (smallS3 sch).length rows) := by
  have h1 := smallS3_len sch
  refine ⟨by omega, by have := smallRows3_len (smallS3 sch).length rows; omega, fun x hx => ?_⟩
  rw [smallRows3_row _ _ x hx]; omega


end Go.Proofs.YtgpbhmcmbigbdaaDoor.G

/- What the listed variables give: the table that strconv reads; a start that fits; an argument that is a relation. -/
set_option linter.unusedVariables false
set_option linter.unusedSimpArgs false
namespace Go.Proofs.YtgpbhmcmbigbdaaDoor.G
open Go.RowKit Go.ChangeShapes Go.WideShapes Go.ChangeAt Go.Deep Go.Proofs.YtgpbhmcmbigbdaaDoorW.PrintWords Go.Proofs.YtgpbhmcmbigbdaaDoorW.PrintLast Go.Proofs.YtgpbhmcmbigbdaaDoorW.PrintMore

abbrev laidList : List (String × DataW Unit) := [("math/bits.deBruijn32tab", Rows.laid_math_bits_deBruijn32tab), ("math/bits.deBruijn64tab", Rows.laid_math_bits_deBruijn64tab), ("internal/strconv.uint64pow10", Rows.laid_internal_strconv_uint64pow10)]
theorem gPow : Tryd.prog.globalNamed "internal/strconv.uint64pow10" = some 0 := by kernel_rfl
theorem tPow : (Tryd.prog.globals[0]?).map (·.type) = some 113 := by kernel_rfl
theorem tab_of {W : World} (h : laidMetH Tryd.prog laidList W) : Tab W := by
  have h1 := laidMetH.filter (fun x => x.1 == "internal/strconv.uint64pow10") h
  have e : laidList.filter (fun x => x.1 == "internal/strconv.uint64pow10") = [("internal/strconv.uint64pow10", Lib.tabData .u64 Lib.pow10Tab)] := by
    rw [show laidList = [("math/bits.deBruijn32tab", Rows.laid_math_bits_deBruijn32tab), ("math/bits.deBruijn64tab", Rows.laid_math_bits_deBruijn64tab), ("internal/strconv.uint64pow10", Rows.laid_internal_strconv_uint64pow10)] from rfl]
    rw [List.filter_cons_of_neg (by decide), List.filter_cons_of_neg (by decide), List.filter_cons_of_pos (by decide)]
    rfl
  rw [e, MakeChecks.laidMetH_plain _ _ _ (by kernel_rfl)] at h1
  exact Lib.tabIs_of_head gPow tPow Tryd.underlying113 Tryd.underlying80 (by kernel_rfl) (by kernel_rfl) h1
theorem door_met (os : Os) (args : Array Value) : laidMetH Tryd.prog laidList ((World.doorLaid Tryd.prog 400 os).forCall (fun _ _ => 0) ⟨#[], args, []⟩).memory :=
  laidMetH_of_parts3 (fuel := 8) (laidMet_of_run' 8 (by kernel_rfl) (by kernel_rfl)) (by kernel_rfl) (by kernel_rfl)
end Go.Proofs.YtgpbhmcmbigbdaaDoor.G

/- A part that comes in: its box, what it reads as; what small makes of it. -/
set_option linter.unusedVariables false
set_option linter.unusedSimpArgs false
namespace Go.Proofs.YtgpbhmcmbigbdaaDoor.G
open Go.RowKit Go.ChangeShapes Go.WideShapes Go.ChangeAt Go.Deep Go.Proofs.YtgpbhmcmbigbdaaDoorW.PrintWords Go.Proofs.YtgpbhmcmbigbdaaDoorW.PrintLast Go.Proofs.YtgpbhmcmbigbdaaDoorW.PrintMore Go.Proofs.YtgpbhmcmbigbdaaDoor.PRefs

theorem inR_md {v q : Int} (h : 0 ≤ md v q ∧ md v q < q) (hq : q ≤ 100) : -9223372036854775808 ≤ md v q ∧ md v q ≤ 9223372036854775807 := by omega
theorem smallRow_in (n : Nat) (row : List Int) : ∀ x ∈ smallRow n row, 0 ≤ x ∧ x ≤ 2 := fun x hx => by
  unfold smallRow at hx
  obtain ⟨q, _, rfl⟩ := List.mem_map.1 hx
  split
  · have := md_pos (rd row q) 3 (by omega); omega
  · omega
theorem small3_in (n : Nat) (L : List (List Int)) : InR (smallRows3 n L) := fun t ht x hx => by
  unfold smallRows3 at ht
  rw [Pl.mem_sortU] at ht
  obtain ⟨r, _, rfl⟩ := List.mem_map.1 ht
  have := smallRow_in n r x hx
  omega
/-- What small makes is right, and small. -/
structure Sm (sc : List Int) (L : List (List Int)) : Prop where
  rt : Rt sc L
  s : sc.length ≤ 3
  l : L.length ≤ 12
theorem sm_small (sch : List Int) (L : List (List Int)) : Sm (smallS3 sch) (smallRows3 (smallS3 sch).length L) := by
  have h1 := smallS3_len sch
  have h2 := smallRows3_len (smallS3 sch).length L
  exact ⟨⟨right_small3 sch L, by omega, by omega, small3_in _ _⟩, h1, h2⟩
theorem Sm.sz {sc : List Int} {L : List (List Int)} (h : Sm sc L) : Sz sc L := ⟨by have := h.s; omega, by have := h.l; omega, fun x hx => by rw [h.rt.r.2.1 x hx]; have := h.s; omega⟩
theorem Rt.semi {sc : List Int} {L : List (List Int)} (h : Rt sc L) (sd : List Int) (M : List (List Int)) : Rt sc (semiRows sc L sd M) :=
  ⟨right_semi h.r sd M, h.s, Nat.le_trans (List.length_filter_le _ _) h.l, inR_filter h.i _⟩
theorem Rt.proj {sc : List Int} {L : List (List Int)} (h : Rt sc L) (vars : List Int) : Rt (projRel sc L vars).1 (projRel sc L vars).2 := by
  refine ⟨right_proj h.r vars, ?_, Nat.le_trans (cutRows_len _ _ _) h.l, inR_cut h.i _⟩
  have e : (projRel sc L vars).1 = onto sc vars := rfl
  rw [e, onto_eq sc vars h.r.1.1]
  exact Nat.le_trans (List.length_filter_le _ _) h.s
theorem sm_join {sc sd : List Int} {L M : List (List Int)} (h : Sm sc L) (h' : Sm sd M) : (joinRows sc L sd M).length ≤ 144 :=
  Nat.le_trans (join_len_le sc L sd M) (Nat.mul_le_mul h.l h'.l)
theorem rt_smjoin {sc sd : List Int} {L M : List (List Int)} (h : Sm sc L) (h' : Sm sd M) : Rt (uni sc sd) (joinRows sc L sd M) :=
  rt_join h.rt h'.rt (by have := h.s; have := h'.s; omega) (by have := sm_join h h'; omega)
theorem joinAt_fits {sc sd : List Int} {L M : List (List Int)} {most : Int} (h : ((joinRows sc L sd M).length : Int) ≤ most) : joinAt sc L sd M most = (uni sc sd, joinRows sc L sd M) ∧ joinEr sc L sd M most = 0 := ⟨if_pos h, if_pos h⟩

/-- A part that came in. -/
theorem slice_of {H : Type} {enc : TypeId × Value → H} {W : World} {base : Nat} {held : Bool} {v : Value} {x : DataW H × List MemPlace} {fuel : Nat} {t e : Nat} (ht : Tryd.prog.underlying t = some (.slice e))
    (h : DataW.trod enc Tryd.prog W base (fun _ => true) held fuel t [v] = some x) : ∃ a len cap, v = .slice a len cap := by
  rcases Go.Deep.open_slice ht h with h1 | h1
  · simp at h1; exact ⟨_, _, _, h1.1⟩
  · obtain ⟨a, len, cap, h2⟩ : ∃ a len cap, [v] = [Value.slice a len cap] := by
      obtain ⟨ad, l, c, _, _, _, _, h3, _⟩ := h1
      exact ⟨_, _, _, h3⟩
    simp at h2
    exact ⟨a, len, cap, h2⟩
section
variable {w : World} {A : Option Addr} {c : Nat} {sc : List Int} {A' : Option Addr} {c' : Nat} {L : List (List Int)} {B : Option Addr} {d : Nat} {sd : List Int} {B' : Option Addr} {d' : Nat} {M : List (List Int)}
theorem project_to {A2 : Option Addr} {c2 : Nat} {vars : List Int} (h : RelRd w A c sc A' c' L) (ht : Rt sc L) (hr2 : Kd.C KI w A2 vars.length vars) (hm2 : vars.length ≤ 10000000) {SC' : List Int} {L' : List (List Int)} (hP : projRel sc L vars = (SC', L')) :
    Calls Tryd.prog 30 #[.agg #[.slice A sc.length c, .slice A' L.length c'], .slice A2 vars.length c2] w fun e w' => RelTo w w' e SC' L' := project_rt h ht hr2 hm2 hP
end
theorem nil_uni {sc : List Int} (h : Rise sc) : uni [] sc = sc := by rw [uni_comm List.Pairwise.nil h]; exact uni_nil h
theorem unit_join {sc : List Int} {L : List (List Int)} (h : RightP sc L) : joinRows [] [[]] sc L = L := by rw [join_comm right_unit h]; exact join_unit h
/-- Three joined. -/
theorem all3 {sa sb sc : List Int} {A B C : List (List Int)} (ha : Sm sa A) (hb : Sm sb B) (hc : Sm sc C) :
    allRel 10000 [⟨sa, A⟩, ⟨sb, B⟩, ⟨sc, C⟩] ([], [[]]) = some (uni (uni sa sb) sc, joinRows (uni sa sb) (joinRows sa A sb B) sc C) := by
  have h1 := ha.l
  have h2 := sm_join ha hb
  have h3 : (joinRows (uni sa sb) (joinRows sa A sb B) sc C).length ≤ 144 * 12 := Nat.le_trans (join_len_le _ _ _ _) (Nat.mul_le_mul h2 hc.l)
  simp only [allRel]
  rw [unit_join ha.rt.r, nil_uni ha.rt.r.1.1, if_pos (by omega), if_pos (by omega), if_pos (by omega)]
theorem lit_rels3 {w : World} {A : Option Addr} {c : Nat} {sa : List Int} {A' : Option Addr} {c' : Nat} {X : List (List Int)} {B : Option Addr} {d : Nat} {sb : List Int} {B' : Option Addr} {d' : Nat} {Y : List (List Int)} {C : Option Addr} {e : Nat} {sc : List Int} {C' : Option Addr} {e' : Nat} {Z : List (List Int)}
    (ha : RelRd w A c sa A' c' X) (hb : RelRd w B d sb B' d' Y) (hc : RelRd w C e sc C' e' Z) :
    Kd.C k37 (w.alloc (.cells #[.slice A sa.length c, .slice A' X.length c', .slice B sb.length d, .slice B' Y.length d', .slice C sc.length e, .slice C' Z.length e'] 37)) (some ⟨w.heap.size, 0, none⟩) 3 [⟨sa, X⟩, ⟨sb, Y⟩, ⟨sc, Z⟩] := by
  have hbl := below_alloc (Below.refl w.heap.size w) (.cells #[.slice A sa.length c, .slice A' X.length c', .slice B sb.length d, .slice B' Y.length d', .slice C sc.length e, .slice C' Z.length e'] 37)
  have hn := heap_alloc_new w (.cells #[.slice A sa.length c, .slice A' X.length c', .slice B sb.length d, .slice B' Y.length d', .slice C sc.length e, .slice C' Z.length e'] 37)
  have cell : ∀ j, j < 6 → (w.alloc (.cells #[.slice A sa.length c, .slice A' X.length c', .slice B sb.length d, .slice B' Y.length d', .slice C sc.length e, .slice C' Z.length e'] 37)).cell? ((⟨w.heap.size, 0, none⟩ : Addr).add j) = (#[.slice A sa.length c, .slice A' X.length c', .slice B sb.length d, .slice B' Y.length d', .slice C sc.length e, .slice C' Z.length e'] : Array Value)[j]? := fun j hj => by
    have ea : (⟨w.heap.size, 0, none⟩ : Addr).add j = ⟨w.heap.size, j, none⟩ := by unfold Addr.add; split <;> simp_all
    rw [ea, cell_of_row _ w.heap.size _ _ _ _ hn]
  refine ⟨rfl, by omega, fun _ => ⟨_, rfl, fun j p hj => ?_⟩⟩
  match j, hj with
  | 0, hj =>
    obtain rfl := Option.some.inj hj
    exact ⟨_, rfl, k37_mk _ ⟨sa, X⟩ ha.cap (ha.step hbl).row ha.cap2 (ha.step hbl).rows, fun i u hu => by
      match i, hu with
      | 0, hu => exact (cell 0 (by omega)).trans hu
      | 1, hu => exact (cell 1 (by omega)).trans hu⟩
  | 1, hj =>
    obtain rfl := Option.some.inj hj
    exact ⟨_, rfl, k37_mk _ ⟨sb, Y⟩ hb.cap (hb.step hbl).row hb.cap2 (hb.step hbl).rows, fun i u hu => by
      match i, hu with
      | 0, hu => exact (cell 2 (by omega)).trans hu
      | 1, hu => exact (cell 3 (by omega)).trans hu⟩
  | 2, hj =>
    obtain rfl := Option.some.inj hj
    exact ⟨_, rfl, k37_mk _ ⟨sc, Z⟩ hc.cap (hc.step hbl).row hc.cap2 (hc.step hbl).rows, fun i u hu => by
      match i, hu with
      | 0, hu => exact (cell 4 (by omega)).trans hu
      | 1, hu => exact (cell 5 (by omega)).trans hu⟩
theorem at_le {W : World} {g a : Nat} {o : Obj} (hk : W.heap[g]? = some o) (h : a ≤ g) : a ≤ g := h
section
variable {w : World} {A : Option Addr} {c : Nat} {sc : List Int} {A' : Option Addr} {c' : Nat} {L : List (List Int)} {B : Option Addr} {d : Nat} {B' : Option Addr} {d' : Nat} {M : List (List Int)}
theorem rt_union {sc : List Int} {L M : List (List Int)} (h : Rt sc L) (h' : Rt sc M) (hl : L.length + M.length ≤ 20000) : Rt sc (Pl.sortU (L ++ M)) :=
  ⟨right_union h.r h'.r, h.s, by have := Pl.sortU_length_le (L ++ M); rw [List.length_append] at this; omega, inR_sort (inR_append h.i h'.i)⟩
end
end Go.Proofs.YtgpbhmcmbigbdaaDoor.G
