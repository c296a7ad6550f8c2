/- The document's Meet, Unite and Compare, as they are called. -/
import Derived.Test.YtnmonjincnlhiaaDoorPRefsx8
import Derived.Test.YtnmonjincnlhiaaDoorInPart
set_option linter.unusedVariables false
set_option linter.unusedSimpArgs false
namespace Go.Proofs.YtnmonjincnlhiaaDoor.G
open Go.RowKit Go.Proofs.YtnmonjincnlhiaaDoorW.PrintWords Go.Proofs.YtnmonjincnlhiaaDoorW.PrintLast Go.Proofs.YtnmonjincnlhiaaDoorW.PrintMore Go.Proofs.YtnmonjincnlhiaaDoor.PRefs

theorem Meet_l0 (x0 x1 : List Int) (hl : x0.length ≤ 1000000000) (hl1 : x1.length ≤ 1000000000) : ∀ n i k (x5 : List Int), i + n = x0.length → n + x1.length + 1 < k → x5.length ≤ i → arboristref01_Meet.l0 k x0 x1 x5 (i : Int) = some (x5 ++ (x0.drop i).filter fun a => decide (a ∈ x1))
  | 0, i, 0, _, _, h, _ => by omega
  | 0, i, k + 1, x5, h, _, _ => by
    unfold arboristref01_Meet.l0
    rw [if_neg (by omega), List.drop_of_length_le (by omega)]; simp
  | n + 1, i, 0, _, _, h, _ => by omega
  | n + 1, i, k + 1, x5, h, hk, h5 => by
    unfold arboristref01_Meet.l0
    rw [if_pos (by omega), if_pos (by omega), drop_rd x0 i (by omega), In_f x1 _ k hl1 (by omega)]
    simp only [Option.bind_some]
    by_cases he : rd x0 (i : Int) ∈ x1
    · rw [if_pos (decide_eq_true he), if_pos (by omega), w1 i (by omega), Meet_l0 x0 x1 hl hl1 n (i + 1) k _ (by omega) (by omega) (by simp; omega)]
      simp [he]
    · rw [if_neg (by simp [he]), w1 i (by omega), Meet_l0 x0 x1 hl hl1 n (i + 1) k x5 (by omega) (by omega) (by omega)]
      simp [he]
theorem Meet_f (l m : List Int) (k : Nat) (hl : l.length ≤ 1000000000) (hm : m.length ≤ 1000000000) (hk : l.length + m.length + 1 < k) : arboristref01_Meet.f k l m = some (l.filter fun a => decide (a ∈ m)) := by
  unfold arboristref01_Meet.f
  have := Meet_l0 l m hl hm l.length 0 k [] (by omega) (by omega) (by simp)
  simpa using this
theorem uni_zip {l m : List Int} (h : Rise l) (h' : Rise m) : zip2 l (m.filter fun a => decide (a ∉ l)) = uni l m :=
  rise_same (zip2_rise _ _ h (List.Pairwise.filter _ h') fun x hx hx' => by
    have := (List.mem_filter.1 hx').2
    simp at this
    exact this hx) (merge_rise _ _ h h') fun a => by
    show a ∈ zip2 l (m.filter fun a => decide (a ∉ l)) ↔ a ∈ uni l m
    rw [mem_zip2, mem_uni, List.mem_filter]
    by_cases ha : a ∈ l <;> simp [ha]
section
variable {w : World} {A : Option Addr} {c : Nat} {l : List Int} {B : Option Addr} {d : Nat} {m : List Int}
theorem meet_is (hA : Kd.C KI w A l.length l) (hc : l.length ≤ c) (hB : Kd.C KI w B m.length m) (hd : m.length ≤ d) (hl : l.length ≤ 1000) (hm : m.length ≤ 1000) {r : List Int} (hr : (l.filter fun a => decide (a ∈ m)) = r) :
    Calls Tryd.prog 25 #[.slice A l.length c, .slice B m.length d] w fun e w' => ∃ A c, e = .returned (.slice A r.length c) ∧ Below w.heap.size w w' := by
  refine (arboristref01_Meet.calls 4000 A c l B d m r w hA hc hB hd (by rw [← hr]; exact Meet_f l m 4000 (by omega) (by omega) (by omega))).mono ?_
  rintro e w' ⟨v, rfl, hv, hb⟩
  obtain ⟨A, c, rfl, h0, h1⟩ := Kd.R_reads hv
  exact ⟨A, c, rfl, hb⟩
theorem docunite_is (hA : Kd.C KI w A l.length l) (hc : l.length ≤ c) (hB : Kd.C KI w B m.length m) (hd : m.length ≤ d) (hl : l.length ≤ 900) (hm : m.length ≤ 900) (h : Rise l) (h' : Rise m) {r : List Int} (hr : uni l m = r) :
    Calls Tryd.prog 27 #[.slice A l.length c, .slice B m.length d] w fun e w' => ∃ A c, e = .returned (.slice A r.length c) ∧ (r.length ≤ c ∧ Kd.C KI w' A r.length r) ∧ Below w.heap.size w w' := by
  refine (arboristref01_Unite.calls 4000 A c l B d m r w hA hc hB hd (by rw [← hr, ← uni_zip h h']; exact Unite_f l m 4000 (by omega) (by omega) (by omega))).mono ?_
  rintro e w' ⟨v, rfl, hv, hb⟩
  obtain ⟨A, c, rfl, h0, h1⟩ := Kd.R_reads hv
  exact ⟨A, c, rfl, ⟨h0, h1⟩, hb⟩
theorem alike_is (hA : Kd.C KI w A l.length l) (hc : l.length ≤ c) (hB : Kd.C KI w B l.length l) (hd : l.length ≤ d) (hl : l.length ≤ 1900) :
    Calls Tryd.prog 26 #[.slice A l.length c, .slice B l.length d] w fun e w' => e = .returned (.int .i64 0) ∧ Below w.heap.size w w' := by
  refine (arboristref01_Compare.calls 4000 A c l B d l 0 w hA hc hB hd (by rw [Compare_f l l 4000 (by omega) (by omega) (by omega), Pl.cmp_self])).mono ?_
  rintro e w' ⟨rfl, hd⟩
  exact ⟨rfl, hd.below⟩
end
end Go.Proofs.YtnmonjincnlhiaaDoor.G
