/- The document's answer for layer 2, as the print tells it: Same, Right. -/
import Derived.Test.YtgpbhmcmbigbdaaDoorPAll
import Derived.Test.YtgpbhmcmbigbdaaDoorBox
set_option linter.unusedVariables false
set_option linter.unusedSimpArgs false
namespace Go.Proofs.YtgpbhmcmbigbdaaDoor.G
open Go.RowKit Go.Proofs.YtgpbhmcmbigbdaaDoorW.PrintWords Go.Proofs.YtgpbhmcmbigbdaaDoorW.PrintLast Go.Proofs.YtgpbhmcmbigbdaaDoorW.PrintMore Go.Proofs.YtgpbhmcmbigbdaaDoor.PRefs

theorem drop_get {α : Type} (L : List α) (i : Nat) (h : i < L.length) : L.drop i = L[i] :: L.drop (i + 1) := List.drop_eq_getElem_cons h

theorem Same_l0 (sa sb : List Int) (La Lb : List (List Int)) (he : La.length = Lb.length) (hl : La.length ≤ 1000000) (hx : ∀ x ∈ La, x.length ≤ 1000000) (hy : ∀ x ∈ Lb, x.length ≤ 1000000) : ∀ n i k, i + n = La.length → n + 3000000 < k → arboristref02_Same.l0 k (i : Int) sa La sb Lb = some (decide (La.drop i = Lb.drop i))
  | 0, i, 0, _, h => by omega
  | 0, i, k + 1, h, _ => by
    unfold arboristref02_Same.l0
    rw [if_neg (by omega), List.drop_of_length_le (by omega), List.drop_of_length_le (by omega)]; simp
  | n + 1, i, 0, _, h => by omega
  | n + 1, i, k + 1, h, hk => by
    have h1 : La[i].length ≤ 1000000 := hx _ (List.getElem_mem (by omega))
    have h2 : Lb[i].length ≤ 1000000 := hy _ (List.getElem_mem (by omega))
    unfold arboristref02_Same.l0
    rw [if_pos (by omega), if_pos (by omega), if_pos (by omega), rd_L1_get La i (by omega), rd_L1_get Lb i (by omega), Compare_f _ _ k (by omega) (by omega) (by omega)]
    simp only [Option.bind_some]
    have hd1 := drop_get La i (by omega)
    have hd2 := drop_get Lb i (by omega)
    by_cases hc : La[i] = Lb[i]
    · rw [if_pos ((Pl.cmp_eq _ _).2 hc), w1 i (by omega), Same_l0 sa sb La Lb he hl hx hy n (i + 1) k (by omega) (by omega)]
      congr 1
      rw [decide_eq_decide, hd1, hd2, hc]
      exact ⟨fun h => by rw [h], fun h => (List.cons.inj h).2⟩
    · rw [if_neg (fun h => hc ((Pl.cmp_eq _ _).1 h)), decide_eq_false]
      rw [hd1, hd2]
      exact fun h => hc (List.cons.inj h).1
theorem Same_f (sa sb : List Int) (La Lb : List (List Int)) (k : Nat) (ha : sa.length ≤ 1000000) (hb : sb.length ≤ 1000000) (hl : La.length ≤ 1000000) (hx : ∀ x ∈ La, x.length ≤ 1000000) (hy : ∀ x ∈ Lb, x.length ≤ 1000000) (hk : 5000000 ≤ k) : arboristref02_Same.f k sa La sb Lb = some (decide (sa = sb ∧ La = Lb)) := by
  have hj : ∀ k, 4999999 ≤ k → La.length = Lb.length → arboristref02_Same.j0 k false sa La sb Lb = some (decide (La = Lb)) := fun k hk he => by
    obtain ⟨k, rfl⟩ : ∃ j, k = j + 1 := ⟨k - 1, by omega⟩
    unfold arboristref02_Same.j0
    have := Same_l0 sa sb La Lb he hl hx hy La.length 0 k (by omega) (by omega)
    simpa using this
  have hj1 : ∀ k, 0 < k → arboristref02_Same.j0 k true sa La sb Lb = some false := fun k hk => by
    obtain ⟨k, rfl⟩ : ∃ j, k = j + 1 := ⟨k - 1, by omega⟩
    unfold arboristref02_Same.j0; rfl
  unfold arboristref02_Same.f
  by_cases he : La.length = Lb.length
  · rw [if_pos (by omega), Compare_f sa sb k (by omega) (by omega) (by omega)]
    simp only [Option.bind_some]
    by_cases hc : sa = sb
    · rw [(Pl.cmp_eq _ _).2 hc, show ((0 : Int) != 0) = false from rfl, hj k (by omega) he]
      simp [hc]
    · have hn : Pl.cmp sa sb ≠ 0 := fun h => hc ((Pl.cmp_eq _ _).1 h)
      rw [bne_iff_ne.2 hn, hj1 k (by omega)]
      simp [hc]
  · rw [if_neg (by omega), hj1 k (by omega)]
    have : La ≠ Lb := fun e => he (by rw [e])
    simp [this]

theorem w1' (i : Nat) (h : i ≤ 1000000000000) (h0 : 1 ≤ i) : wrap64 ((i : Int) - 1) = ((i - 1 : Nat) : Int) := by rw [Go.IntWalk.wrap64_in _ (by omega)]; omega

section
variable {w : World} {A : Option Addr} {c : Nat} {sc : List Int} {A' : Option Addr} {c' : Nat} {L : List (List Int)} {B : Option Addr} {d : Nat} {sd : List Int} {B' : Option Addr} {d' : Nat} {M : List (List Int)}
theorem refsame_is (h : RelRd w A c sc A' c' L) (hz : Sz sc L) (h' : RelRd w B d sd B' d' M) (hz' : Sz sd M) (b : Bool) (hb : decide (sc = sd ∧ L = M) = b) :
    Calls Tryd.prog 16 #[.agg #[.slice A sc.length c, .slice A' L.length c'], .agg #[.slice B sd.length d, .slice B' M.length d']] w fun e w' => e = .returned (.bool b) ∧ Below w.heap.size w w' := by
  have h1 := hz.s
  have h2 := hz'.s
  have h3 := hz.l
  refine arboristref02_Same.calls 5000000 A c sc A' c' L B d sd B' d' M b w h.row h.cap h.rows h.cap2 h'.row h'.cap h'.rows h'.cap2 ?_
  rw [Same_f sc sd L M 5000000 (by omega) (by omega) (by omega) (fun x hx => by have := hz.x x hx; omega) (fun x hx => by have := hz'.x x hx; omega) (Nat.le_refl _), hb]
end
end Go.Proofs.YtgpbhmcmbigbdaaDoor.G
