/- Several texts of this claim in one. -/
import Derived.Test.YtgpbhmcmbigbdaaGreatDoorPAll
import Derived.Test.YtgpbhmcmbigbdaaGreatDoorBox
import Derived.Test.YtgpbhmcmbigbdaaGreatDoorMeet
/- The document's answer for layer 2, as the print tells it: Same, Right. -/
set_option linter.unusedVariables false
set_option linter.unusedSimpArgs false
namespace Go.Proofs.YtgpbhmcmbigbdaaGreatDoor.G
open Go.RowKit Go.Proofs.YtgpbhmcmbigbdaaGreatDoorW.PrintWords Go.Proofs.YtgpbhmcmbigbdaaGreatDoorW.PrintLast Go.Proofs.YtgpbhmcmbigbdaaGreatDoorW.PrintMore Go.Proofs.YtgpbhmcmbigbdaaGreatDoor.PRefs

theorem drop_get {α : Type} (L : List α) (i : Nat) (h : i < L.length) : L.drop i = L[i] :: L.drop (i + 1) := List.drop_eq_getElem_cons h

theorem Same_l0 (sa sb : List Int) (La Lb : List (List Int)) (he : La.length = Lb.length) (hl : La.length ≤ 1000000) (hx : ∀ x ∈ La, x.length ≤ 1000000) (hy : ∀ x ∈ Lb, x.length ≤ 1000000) : ∀ n i k, i + n = La.length → n + 3000000 < k → arboristref02_Same.l0 k (i : Int) sa La sb Lb = some (decide (La.drop i = Lb.drop i))
  | 0, i, 0, _, h => by omega
  | 0, i, k + 1, h, _ => by
    unfold arboristref02_Same.l0
    rw [if_neg (by omega), List.drop_of_length_le (by omega), List.drop_of_length_le (by omega)]; simp
  | n + 1, i, 0, _, h => by omega
  | n + 1, i, k + 1, h, hk => by
    have h1 : La[i].length ≤ 1000000 := hx _ (List.getElem_mem (by omega))
    have h2 : Lb[i].length ≤ 1000000 := hy _ (List.getElem_mem (by omega))
    unfold arboristref02_Same.l0
    rw [if_pos (by omega), if_pos (by omega), if_pos (by omega), rd_L1_get La i (by omega), rd_L1_get Lb i (by omega), Compare_f _ _ k (by omega) (by omega) (by omega)]
    simp only [Option.bind_some]
    have hd1 := drop_get La i (by omega)
    have hd2 := drop_get Lb i (by omega)
    by_cases hc : La[i] = Lb[i]
    · rw [if_pos ((Pl.cmp_eq _ _).2 hc), w1 i (by omega), Same_l0 sa sb La Lb he hl hx hy n (i + 1) k (by omega) (by omega)]
      congr 1
      rw [decide_eq_decide, hd1, hd2, hc]
      exact ⟨fun h => by rw [h], fun h => (List.cons.inj h).2⟩
    · rw [if_neg (fun h => hc ((Pl.cmp_eq _ _).1 h)), decide_eq_false]
      rw [hd1, hd2]
      exact fun h => hc (List.cons.inj h).1
theorem Same_f (sa sb : List Int) (La Lb : List (List Int)) (k : Nat) (ha : sa.length ≤ 1000000) (hb : sb.length ≤ 1000000) (hl : La.length ≤ 1000000) (hx : ∀ x ∈ La, x.length ≤ 1000000) (hy : ∀ x ∈ Lb, x.length ≤ 1000000) (hk : 5000000 ≤ k) : arboristref02_Same.f k sa La sb Lb = some (decide (sa = sb ∧ La = Lb)) := by
  have hj : ∀ k, 4999999 ≤ k → La.length = Lb.length → arboristref02_Same.j0 k false sa La sb Lb = some (decide (La = Lb)) := fun k hk he => by
    obtain ⟨k, rfl⟩ : ∃ j, k = j + 1 := ⟨k - 1, by omega⟩
    unfold arboristref02_Same.j0
    have := Same_l0 sa sb La Lb he hl hx hy La.length 0 k (by omega) (by omega)
    simpa using this
  have hj1 : ∀ k, 0 < k → arboristref02_Same.j0 k true sa La sb Lb = some false := fun k hk => by
    obtain ⟨k, rfl⟩ : ∃ j, k = j + 1 := ⟨k - 1, by omega⟩
    unfold arboristref02_Same.j0; rfl
  unfold arboristref02_Same.f
  by_cases he : La.length = Lb.length
  · rw [if_pos (by omega), Compare_f sa sb k (by omega) (by omega) (by omega)]
    simp only [Option.bind_some]
    by_cases hc : sa = sb
    · rw [(Pl.cmp_eq _ _).2 hc, show ((0 : Int) != 0) = false from rfl, hj k (by omega) he]
      simp [hc]
    · have hn : Pl.cmp sa sb ≠ 0 := fun h => hc ((Pl.cmp_eq _ _).1 h)
      rw [bne_iff_ne.2 hn, hj1 k (by omega)]
      simp [hc]
  · rw [if_neg (by omega), hj1 k (by omega)]
    have : La ≠ Lb := fun e => he (by rw [e])
    simp [this]

section
variable {w : World} {A : Option Addr} {c : Nat} {sc : List Int} {A' : Option Addr} {c' : Nat} {L : List (List Int)} {B : Option Addr} {d : Nat} {sd : List Int} {B' : Option Addr} {d' : Nat} {M : List (List Int)}
end
end Go.Proofs.YtgpbhmcmbigbdaaGreatDoor.G

/- The document's answer for layer 2, as the print tells it: Place. -/
set_option linter.unusedVariables false
set_option linter.unusedSimpArgs false
namespace Go.Proofs.YtgpbhmcmbigbdaaGreatDoor.G
open Go.RowKit Go.Proofs.YtgpbhmcmbigbdaaGreatDoorW.PrintWords Go.Proofs.YtgpbhmcmbigbdaaGreatDoorW.PrintLast Go.Proofs.YtgpbhmcmbigbdaaGreatDoorW.PrintMore Go.Proofs.YtgpbhmcmbigbdaaGreatDoor.PRefs

theorem Place_l0 (x0 : List Int) (x1 : Int) (hl : x0.length ≤ 1000000000) : ∀ n i k, i + n = x0.length → n < k → arboristref02_Place.l0 k x0 x1 (i : Int) = some (if x1 ∈ x0.drop i then ((i + (x0.drop i).idxOf x1 : Nat) : Int) else -1)
  | n, i, 0, _, h => by omega
  | 0, i, k + 1, h, _ => by
    unfold arboristref02_Place.l0
    rw [if_neg (by omega), List.drop_of_length_le (by omega)]; simp
  | n + 1, i, k + 1, h, hk => by
    unfold arboristref02_Place.l0
    rw [if_pos (by omega), if_pos (by omega), drop_rd x0 i (by omega)]
    by_cases he : rd x0 (i : Int) = x1
    · rw [if_pos he, he, if_pos List.mem_cons_self, List.idxOf_cons_self]; rfl
    · rw [if_neg he, w1 i (by omega), Place_l0 x0 x1 hl n (i + 1) k (by omega) (by omega)]
      congr 1
      by_cases hm : x1 ∈ x0.drop (i + 1)
      · rw [if_pos hm, if_pos (List.mem_cons_of_mem _ hm), List.idxOf_cons, show (rd x0 (i : Int) == x1) = false from beq_eq_false_iff_ne.2 he]
        show ((i + 1 + List.idxOf x1 (List.drop (i + 1) x0) : Nat) : Int) = ((i + (List.idxOf x1 (List.drop (i + 1) x0) + 1) : Nat) : Int)
        omega
      · rw [if_neg hm, if_neg (fun h => (List.mem_cons.1 h).elim (fun e => he e.symm) hm)]
theorem Place_f (l : List Int) (a : Int) (k : Nat) (hl : l.length ≤ 1000000000) (hk : l.length < k) : arboristref02_Place.f k l a = some (idx l a) := by
  unfold arboristref02_Place.f
  have := Place_l0 l a hl l.length 0 k (by omega) hk
  simpa [idx] using this
end Go.Proofs.YtgpbhmcmbigbdaaGreatDoor.G

/- The document's answer for layer 2, as the print tells it: Pick, Cut, Meet, Project. -/
set_option linter.unusedVariables false
set_option linter.unusedSimpArgs false
namespace Go.Proofs.YtgpbhmcmbigbdaaGreatDoor.G
open Go.RowKit Go.Proofs.YtgpbhmcmbigbdaaGreatDoorW.PrintWords Go.Proofs.YtgpbhmcmbigbdaaGreatDoorW.PrintLast Go.Proofs.YtgpbhmcmbigbdaaGreatDoorW.PrintMore Go.Proofs.YtgpbhmcmbigbdaaGreatDoor.PRefs

theorem pick_cons (t : List Int) (p : Int) (ps : List Int) : pick t (p :: ps) = if 0 ≤ p ∧ p < (t.length : Int) then rd t p :: pick t ps else pick t ps := by
  unfold pick
  by_cases h : 0 ≤ p ∧ p < (t.length : Int)
  · rw [List.filterMap_cons_some (b := rd t p) (by rw [if_pos h]), if_pos h]
  · rw [List.filterMap_cons_none (by rw [if_neg h]), if_neg h]
theorem PickR_l0 (x0 x1 : List Int) (hl : x1.length ≤ 1000000000) : ∀ n i k (x5 : List Int), i + n = x1.length → n < k → x5.length ≤ i → arboristref01_Pick.l0 k x0 x1 x5 (i : Int) = some (x5 ++ pick x0 (x1.drop i))
  | n, i, 0, _, _, h, _ => by omega
  | 0, i, k + 1, x5, h, _, _ => by
    unfold arboristref01_Pick.l0
    rw [if_neg (by omega), List.drop_of_length_le (by omega)]; simp [pick]
  | n + 1, i, k + 1, x5, h, hk, h5 => by
    unfold arboristref01_Pick.l0
    rw [if_pos (by omega), if_pos (by omega), drop_rd x1 i (by omega), pick_cons, w1 i (by omega)]
    by_cases h0 : rd x1 (i : Int) ≥ 0
    · rw [if_pos h0]
      by_cases h1 : rd x1 (i : Int) < (x0.length : Int)
      · rw [if_pos h1, if_pos (by omega), if_pos (by omega), if_pos ⟨by omega, h1⟩, PickR_l0 x0 x1 hl n (i + 1) k _ (by omega) (by omega) (by simp; omega)]
        simp
      · rw [if_neg h1, if_neg (fun h => h1 h.2), PickR_l0 x0 x1 hl n (i + 1) k _ (by omega) (by omega) (by omega)]
    · rw [if_neg h0, if_neg (fun h => h0 (by omega)), PickR_l0 x0 x1 hl n (i + 1) k _ (by omega) (by omega) (by omega)]
theorem PickR_f (l m : List Int) (k : Nat) (hm : m.length ≤ 1000000000) (hk : m.length < k) : arboristref01_Pick.f k l m = some (pick l m) := by
  unfold arboristref01_Pick.f
  have := PickR_l0 l m hm m.length 0 k [] (by omega) hk (by simp)
  simpa using this

theorem pick_len_ (t ps : List Int) : (pick t ps).length ≤ ps.length := List.length_filterMap_le _ _
theorem Cut_l1 (x1 : List (List Int)) (x7 : List Int) (hl : x1.length ≤ 1000) (h7 : x7.length ≤ 1000) : ∀ n i k (x9 : List (List Int)), i + n = x1.length → n + 5000000 ≤ k → x9.length ≤ i → (∀ x ∈ x9, x.length ≤ 1000) → arboristref02_Cut.l1 k x1 x7 x9 (i : Int) = some (Pl.sortU (x9 ++ (x1.drop i).map fun t => pick t x7))
  | n, i, 0, _, _, h, _, _ => by omega
  | 0, i, k + 1, x9, h, _, h9, hx => by
    unfold arboristref02_Cut.l1
    rw [if_neg (by omega), List.drop_of_length_le (by omega), List.map_nil, List.append_nil]
    have hk9 : (x9.length + 1) * (2 * 1000 + x9.length + 10) ≤ 1001 * 3010 := Nat.mul_le_mul (by omega) (by omega)
    rw [Sort_f x9 1000 k (by omega) (by omega) hx (by omega)]
    rfl
  | n + 1, i, k + 1, x9, h, hk, h9, hx => by
    have hil : i < x1.length := by omega
    unfold arboristref02_Cut.l1
    rw [if_pos (by omega), if_pos (by omega), rd_L1_get x1 i hil, PickR_f _ _ k (by omega) (by omega)]
    simp only [Option.bind_some]
    rw [if_pos (by omega), w1 i (by omega), Cut_l1 x1 x7 hl h7 n (i + 1) k _ (by omega) (by omega) (by simp; omega) (fun x hx' => by
      rcases List.mem_append.1 hx' with e | e
      · exact hx x e
      · rw [List.mem_singleton.1 e]; have := pick_len_ x1[i] x7; omega), drop_get x1 i hil, List.map_cons, List.append_assoc]
    rfl
theorem Cut_l0 (x0 : List Int) (x1 : List (List Int)) (x2 : List Int) (hl0 : x0.length ≤ 1000) (hl1 : x1.length ≤ 1000) (hl2 : x2.length ≤ 1000) : ∀ n i k (x7 : List Int), i + n = x2.length → n + 6000000 ≤ k → x7.length ≤ i → arboristref02_Cut.l0 k x0 x1 x2 x7 (i : Int) = some (Pl.sortU (x1.map fun t => pick t (x7 ++ (x2.drop i).map (idx x0))))
  | n, i, 0, _, _, h, _ => by omega
  | 0, i, k + 1, x7, h, _, h7 => by
    unfold arboristref02_Cut.l0
    rw [if_neg (by omega), List.drop_of_length_le (by omega), List.map_nil, List.append_nil]
    have := Cut_l1 x1 x7 hl1 (by omega) x1.length 0 k [] (by omega) (by omega) (by simp) (by simp)
    simpa using this
  | n + 1, i, k + 1, x7, h, hk, h7 => by
    unfold arboristref02_Cut.l0
    rw [if_pos (by omega), if_pos (by omega), Place_f x0 _ k (by omega) (by omega)]
    simp only [Option.bind_some]
    rw [if_pos (by omega), w1 i (by omega), Cut_l0 x0 x1 x2 hl0 hl1 hl2 n (i + 1) k _ (by omega) (by omega) (by simp; omega), drop_rd x2 i (by omega)]
    simp
theorem Cut_f (sc : List Int) (rows : List (List Int)) (on : List Int) (k : Nat) (hl0 : sc.length ≤ 1000) (hl1 : rows.length ≤ 1000) (hl2 : on.length ≤ 1000) (hk : 7000000 ≤ k) : arboristref02_Cut.f k sc rows on = some (cutRows sc rows on) := by
  unfold arboristref02_Cut.f
  have := Cut_l0 sc rows on hl0 hl1 hl2 on.length 0 k [] (by omega) (by omega) (by simp)
  simpa [cutRows] using this

theorem MeetR_l0 (x0 x1 : List Int) (hl : x0.length ≤ 1000000) (hl1 : x1.length ≤ 1000000) : ∀ n i k (x5 : List Int), i + n = x0.length → n + 1000001 < k → x5.length ≤ i → arboristref01_Meet.l0 k x0 x1 x5 (i : Int) = some (x5 ++ (x0.drop i).filter fun a => decide (a ∈ x1))
  | n, i, 0, _, _, h, _ => by omega
  | 0, i, k + 1, x5, h, _, _ => by
    unfold arboristref01_Meet.l0
    rw [if_neg (by omega), List.drop_of_length_le (by omega)]; simp
  | n + 1, i, k + 1, x5, h, hk, h5 => by
    unfold arboristref01_Meet.l0
    rw [if_pos (by omega), if_pos (by omega), drop_rd x0 i (by omega), In_f x1 _ k (by omega) (by omega)]
    simp only [Option.bind_some]
    by_cases he : rd x0 (i : Int) ∈ x1
    · rw [if_pos (decide_eq_true he), if_pos (by omega), w1 i (by omega), MeetR_l0 x0 x1 hl hl1 n (i + 1) k _ (by omega) (by omega) (by simp; omega)]
      simp [he]
    · rw [if_neg (by simp [he]), w1 i (by omega), MeetR_l0 x0 x1 hl hl1 n (i + 1) k _ (by omega) (by omega) (by omega)]
      simp [he]
theorem MeetR_f (l m : List Int) (k : Nat) (hl : l.length ≤ 1000000) (hm : m.length ≤ 1000000) (hk : 3000000 ≤ k) : arboristref01_Meet.f k l m = some (l.filter fun a => decide (a ∈ m)) := by
  unfold arboristref01_Meet.f
  have := MeetR_l0 l m hl hm l.length 0 k [] (by omega) (by omega) (by simp)
  simpa using this
theorem ProjectR_f (sc : List Int) (rows : List (List Int)) (vars : List Int) (k : Nat) (hs : Rise sc) (hl0 : sc.length ≤ 1000) (hl1 : rows.length ≤ 1000) (hl2 : vars.length ≤ 1000) (hk : 7000000 ≤ k) : arboristref02_Project.f k sc rows vars = some (projRel sc rows vars) := by
  unfold arboristref02_Project.f
  have h2 : (onto sc vars).length ≤ 1000 := by rw [onto_eq sc vars hs]; exact Nat.le_trans (List.length_filter_le _ _) hl0
  rw [MeetR_f sc vars k (by omega) (by omega) (by omega), ← onto_eq sc vars hs]
  simp only [Option.bind_some]
  rw [Cut_f sc rows (onto sc vars) k hl0 hl1 h2 hk]
  rfl

section
variable {w : World} {A : Option Addr} {c : Nat} {sc : List Int} {A' : Option Addr} {c' : Nat} {L : List (List Int)} {B : Option Addr} {d : Nat} {sd : List Int} {B' : Option Addr} {d' : Nat} {M : List (List Int)}
end
end Go.Proofs.YtgpbhmcmbigbdaaGreatDoor.G

/- The document's answer for layer 3, as the print tells it: Fit, Both, Join, All. -/
set_option linter.unusedVariables false
set_option linter.unusedSimpArgs false
namespace Go.Proofs.YtgpbhmcmbigbdaaGreatDoor.G
open Go.RowKit Go.Proofs.YtgpbhmcmbigbdaaGreatDoorW.PrintWords Go.Proofs.YtgpbhmcmbigbdaaGreatDoorW.PrintLast Go.Proofs.YtgpbhmcmbigbdaaGreatDoorW.PrintMore Go.Proofs.YtgpbhmcmbigbdaaGreatDoor.PRefs

theorem idx_at {sc : List Int} (h : sc.Nodup) (i : Nat) (hi : i < sc.length) : idx sc (rd sc (i : Int)) = (i : Int) := by
  rw [rd_get sc i hi, (idx_in (List.getElem_mem hi)).1, h.idxOf_getElem i hi]
theorem Fit_l0 (s t u v : List Int) (hs : s.Nodup) (ht : t.length = s.length) (hv : v.length = u.length) (hl : s.length ≤ 1000000) (hu : u.length ≤ 1000000) : ∀ n i k, i + n = s.length → n + u.length + 1 < k → arboristref03_Fit.l0 k s t u v (i : Int) = some (decide (∀ a ∈ s.drop i, a ∈ u → look s t a = look u v a))
  | n, i, 0, _, h => by omega
  | 0, i, k + 1, h, _ => by
    unfold arboristref03_Fit.l0
    rw [if_neg (by omega), List.drop_of_length_le (by omega)]; simp
  | n + 1, i, k + 1, h, hk => by
    unfold arboristref03_Fit.l0
    have hi : i < s.length := by omega
    rw [if_pos (by omega), if_pos (by omega), Place_f u _ k (by omega) (by omega), drop_rd s i hi]
    simp only [Option.bind_some]
    have hla : look s t (rd s (i : Int)) = rd t (i : Int) := by unfold look; rw [idx_at hs i hi]
    by_cases hm : rd s (i : Int) ∈ u
    · obtain ⟨h1, h2⟩ := idx_in hm
      rw [if_pos (by omega), if_pos (by omega), if_pos (by omega), if_pos (by omega)]
      have hlb : look u v (rd s (i : Int)) = rd v (idx u (rd s (i : Int))) := rfl
      by_cases he : rd v (idx u (rd s (i : Int))) = rd t (i : Int)
      · rw [if_pos he, w1 i (by omega), Fit_l0 s t u v hs ht hv hl hu n (i + 1) k (by omega) (by omega)]
        congr 1
        rw [decide_eq_decide]
        exact ⟨fun hh a ha hau => (List.mem_cons.1 ha).elim (fun e => by rw [e, hla, hlb, he]) fun ha => hh a ha hau, fun hh a ha => hh a (List.mem_cons_of_mem _ ha)⟩
      · rw [if_neg he, decide_eq_false]
        exact fun hh => he (by have := hh _ List.mem_cons_self hm; rw [hla, hlb] at this; exact this.symm)
    · rw [if_neg (by rw [idx_out hm]; omega), w1 i (by omega), Fit_l0 s t u v hs ht hv hl hu n (i + 1) k (by omega) (by omega)]
      congr 1
      rw [decide_eq_decide]
      exact ⟨fun hh a ha hau => (List.mem_cons.1 ha).elim (fun e => absurd (e ▸ hau) hm) fun ha => hh a ha hau, fun hh a ha => hh a (List.mem_cons_of_mem _ ha)⟩
theorem Fit_f (s t u v : List Int) (k : Nat) (hs : s.Nodup) (ht : t.length = s.length) (hv : v.length = u.length) (hl : s.length ≤ 1000000) (hu : u.length ≤ 1000000) (hk : s.length + u.length + 1 < k) : arboristref03_Fit.f k s t u v = some (fits s u t v) := by
  unfold arboristref03_Fit.f
  have := Fit_l0 s t u v hs ht hv hl hu s.length 0 k (by omega) (by omega)
  rw [show ((0 : Nat) : Int) = 0 from rfl] at this
  rw [this]; rfl

theorem Both_l0 (s t u v al : List Int) (ht : t.length = s.length) (hv : v.length = u.length) (hl : s.length ≤ 1000000) (hu : u.length ≤ 1000000) (ha : al.length ≤ 1000000) (hin : ∀ a ∈ al, a ∈ s ∨ a ∈ u) : ∀ n i k (x : List Int), i + n = al.length → n + s.length + u.length + 1 < k → x.length ≤ i → arboristref03_Both.l0 k s t u v al x (i : Int) = some (x ++ (al.drop i).map fun a => if a ∈ s then look s t a else look u v a)
  | n, i, 0, _, _, h, _ => by omega
  | 0, i, k + 1, x, h, _, _ => by
    unfold arboristref03_Both.l0
    rw [if_neg (by omega), List.drop_of_length_le (by omega)]; simp
  | n + 1, i, k + 1, x, h, hk, hx => by
    unfold arboristref03_Both.l0
    have hi : i < al.length := by omega
    have hmem : rd al (i : Int) ∈ al := by rw [rd_get al i hi]; exact List.getElem_mem hi
    rw [if_pos (by omega), if_pos (by omega), Place_f s _ k (by omega) (by omega), drop_rd al i hi]
    simp only [Option.bind_some, List.map_cons]
    by_cases hm : rd al (i : Int) ∈ s
    · obtain ⟨h1, h2⟩ := idx_in hm
      rw [if_pos (by omega), if_pos (by omega), if_pos (by omega), if_pos (by omega), w1 i (by omega), Both_l0 s t u v al ht hv hl hu ha hin n (i + 1) k _ (by omega) (by omega) (by simp; omega), if_pos hm]
      simp [look]
    · have hm2 := (hin _ hmem).resolve_left hm
      obtain ⟨h1, h2⟩ := idx_in hm2
      rw [if_neg (by rw [idx_out hm]; omega), Place_f u _ k (by omega) (by omega)]
      simp only [Option.bind_some]
      rw [if_pos (by omega), if_pos (by omega), if_pos (by omega), w1 i (by omega), Both_l0 s t u v al ht hv hl hu ha hin n (i + 1) k _ (by omega) (by omega) (by simp; omega), if_neg hm]
      simp [look]
theorem Both_f (s t u v : List Int) (k : Nat) (ht : t.length = s.length) (hv : v.length = u.length) (hl : s.length ≤ 400000) (hu : u.length ≤ 400000) (hk : 2 * (s.length + u.length) + 1 < k) : arboristref03_Both.f k s t u v (uni s u) = some (bothRow s u t v) := by
  unfold arboristref03_Both.f
  have hn := uni_len s u
  have := Both_l0 s t u v (uni s u) ht hv (by omega) (by omega) (by omega) (fun a h => mem_uni.1 h) (uni s u).length 0 k [] (by omega) (by omega) (by simp)
  rw [show ((0 : Nat) : Int) = 0 from rfl] at this
  rw [this]; rfl

def withOne (sa sb : List Int) (M : List (List Int)) (t : List Int) : List (List Int) := (M.filter (fits sa sb t)).map (bothRow sa sb t)
theorem withOne_len (sa sb : List Int) (M : List (List Int)) (t : List Int) : (withOne sa sb M t).length ≤ M.length := by unfold withOne; rw [List.length_map]; exact List.length_filter_le _ _
theorem withOne_yes {sa sb t u : List Int} (M : List (List Int)) (h : fits sa sb t u = true) : withOne sa sb (u :: M) t = [bothRow sa sb t u] ++ withOne sa sb M t := by unfold withOne; rw [List.filter_cons_of_pos h]; rfl
theorem withOne_no {sa sb t u : List Int} (M : List (List Int)) (h : ¬ fits sa sb t u = true) : withOne sa sb (u :: M) t = withOne sa sb M t := by unfold withOne; rw [List.filter_cons_of_neg h]
theorem JoinR_l1 (sa sb : List Int) (La Lb : List (List Int)) (hs : sa.Nodup) (hra : ∀ t ∈ La, t.length = sa.length) (hrb : ∀ t ∈ Lb, t.length = sb.length) (hsa : sa.length ≤ 1000) (hsb : sb.length ≤ 1000) (hla : La.length ≤ 100000) (hlb : Lb.length ≤ 100000) (i : Nat) (hi : i < La.length) : ∀ n j k (x : List (List Int)), j + n = Lb.length → 5000 ≤ k → x.length ≤ i * Lb.length + j →
    arboristref03_Join.l1 (k + n + 1) x (i : Int) (j : Int) sa La sb Lb (uni sa sb) = arboristref03_Join.l0 k (x ++ withOne sa sb (Lb.drop j) La[i]) ((i + 1 : Nat) : Int) sa La sb Lb (uni sa sb)
  | 0, j, k, x, h, _, _ => by
    unfold arboristref03_Join.l1
    rw [if_neg (by omega), List.drop_of_length_le (by omega), w1 i (by omega)]; simp [withOne]
  | n + 1, j, k, x, h, hk, hx => by
    have hj : j < Lb.length := by omega
    have hA := hra _ (List.getElem_mem hi)
    have hB := hrb _ (List.getElem_mem hj)
    have hm : i * Lb.length ≤ 100000 * 100000 := Nat.mul_le_mul (by omega) hlb
    rw [show k + (n + 1) + 1 = (k + n + 1) + 1 by omega]
    unfold arboristref03_Join.l1
    rw [if_pos (by omega), if_pos (by omega), if_pos (by omega), if_pos (by omega), rd_L1_get La i hi, rd_L1_get Lb j hj, Fit_f sa La[i] sb Lb[j] _ hs hA hB (by omega) (by omega) (by omega), drop_get Lb j hj]
    simp only [Option.bind_some]
    by_cases hf : fits sa sb La[i] Lb[j] = true
    · rw [if_pos hf, Both_f sa La[i] sb Lb[j] _ hA hB (by omega) (by omega) (by omega)]
      simp only [Option.bind_some]
      rw [if_pos (by omega), w1 j (by omega), JoinR_l1 sa sb La Lb hs hra hrb hsa hsb hla hlb i hi n (j + 1) k _ (by omega) hk (by simp; omega), withOne_yes _ hf, List.append_assoc]
    · rw [if_neg hf, w1 j (by omega), JoinR_l1 sa sb La Lb hs hra hrb hsa hsb hla hlb i hi n (j + 1) k _ (by omega) hk (by omega), withOne_no _ hf]
theorem JoinR_l0 (sa sb : List Int) (La Lb : List (List Int)) (hs : sa.Nodup) (hra : ∀ t ∈ La, t.length = sa.length) (hrb : ∀ t ∈ Lb, t.length = sb.length) (hsa : sa.length ≤ 1000) (hsb : sb.length ≤ 1000) (hla : La.length ≤ 4000) (hlb : Lb.length ≤ 12) : ∀ n i k (x : List (List Int)), i + n = La.length → n * (Lb.length + 2) + 10000000000 ≤ k → x.length ≤ i * Lb.length → (∀ y ∈ x, y.length ≤ 2000) →
    arboristref03_Join.l0 k x (i : Int) sa La sb Lb (uni sa sb) = some (uni sa sb, Pl.sortU (x ++ (La.drop i).flatMap (withOne sa sb Lb)))
  | n, i, 0, _, _, h, _, _ => by omega
  | 0, i, k + 1, x, h, hk, hx, hy => by
    unfold arboristref03_Join.l0
    have hm : i * Lb.length ≤ 4000 * 12 := Nat.mul_le_mul (by omega) hlb
    have hs2 : (x.length + 1) * (2 * 2000 + x.length + 10) ≤ 48001 * 52010 := Nat.mul_le_mul (by omega) (by omega)
    rw [if_neg (by omega), List.drop_of_length_le (by omega), Sort_f x 2000 k (by omega) (by omega) hy (by omega)]
    simp
  | n + 1, i, k + 1, x, h, hk, hx, hy => by
    have hi : i < La.length := by omega
    have hk' : (n + 1) * (Lb.length + 2) = n * (Lb.length + 2) + (Lb.length + 2) := Nat.succ_mul _ _
    obtain ⟨k', rfl⟩ : ∃ j, k = j + Lb.length + 1 := ⟨k - Lb.length - 1, by omega⟩
    unfold arboristref03_Join.l0
    rw [if_pos (by omega), show (0 : Int) = ((0 : Nat) : Int) from rfl, JoinR_l1 sa sb La Lb hs hra hrb hsa hsb (by omega) (by omega) i hi Lb.length 0 k' x (by omega) (by omega) (by omega), List.drop_zero]
    have hw := withOne_len sa sb Lb La[i]
    have hsu : (i + 1) * Lb.length = i * Lb.length + Lb.length := Nat.succ_mul _ _
    rw [JoinR_l0 sa sb La Lb hs hra hrb hsa hsb hla hlb n (i + 1) k' _ (by omega) (by omega) (by rw [List.length_append]; omega) (fun y h => (List.mem_append.1 h).elim (hy y) fun h => by
      unfold withOne at h
      obtain ⟨u, _, rfl⟩ := List.mem_map.1 h
      unfold bothRow
      rw [List.length_map]
      have := uni_len sa sb
      omega), drop_get La i hi, List.flatMap_cons, List.append_assoc]
theorem JoinR_f {sa sb : List Int} {La Lb : List (List Int)} (h : RightP sa La) (h' : RightP sb Lb) (k : Nat) (hsa : sa.length ≤ 1000) (hsb : sb.length ≤ 1000) (hla : La.length ≤ 4000) (hlb : Lb.length ≤ 12) (hk : 20000000000 ≤ k) : arboristref03_Join.f k sa La sb Lb = some (uni sa sb, joinRows sa La sb Lb) := by
  unfold arboristref03_Join.f
  rw [Unite_f sa sb k (by omega) (by omega) (by omega), uni_zip h.1.1 h'.1.1]
  simp only [Option.bind_some]
  have hm : La.length * (Lb.length + 2) ≤ 4000 * 14 := Nat.mul_le_mul hla (by omega)
  have := JoinR_l0 sa sb La Lb h.1.1.nodup h.2.1 h'.2.1 hsa hsb hla hlb La.length 0 k [] (by omega) (by omega) (by simp) (by simp)
  rw [show ((0 : Nat) : Int) = 0 from rfl] at this
  rw [this]; rfl
end Go.Proofs.YtgpbhmcmbigbdaaGreatDoor.G

/- All of some small relations joined: the program's All and the document's. -/
set_option linter.unusedVariables false
set_option linter.unusedSimpArgs false
namespace Go.Proofs.YtgpbhmcmbigbdaaGreatDoor.G
open Go.RowKit Go.Proofs.YtgpbhmcmbigbdaaGreatDoorW.PrintWords Go.Proofs.YtgpbhmcmbigbdaaGreatDoorW.PrintLast Go.Proofs.YtgpbhmcmbigbdaaGreatDoorW.PrintMore Go.Proofs.YtgpbhmcmbigbdaaGreatDoor.PRefs

section
variable {w : World} {A0 : Option Addr} {c0 : Nat}
theorem docsame_is {A : Option Addr} {c : Nat} {sc : List Int} {A' : Option Addr} {c' : Nat} {L : List (List Int)} {B : Option Addr} {d : Nat} {B' : Option Addr} {d' : Nat} (h : RelRd w A c sc A' c' L) (h' : RelRd w B d sc B' d' L) (hs : sc.length ≤ 300) (hl : L.length ≤ 4000) (hx : ∀ x ∈ L, x.length = sc.length) :
    Calls Tryz.prog 12 #[.agg #[.slice A sc.length c, .slice A' L.length c'], .agg #[.slice B sc.length d, .slice B' L.length d']] w fun e w' => e = .returned (.bool true) ∧ Below w.heap.size w w' :=
  arboristref02_Same.calls 5000000 A c sc A' c' L B d sc B' d' L true w h.row h.cap h.rows h.cap2 h'.row h'.cap h'.rows h'.cap2 (by rw [Same_f sc sc L L 5000000 (by omega) (by omega) (by omega) (fun x hy => by rw [hx x hy]; omega) (fun x hy => by rw [hx x hy]; omega) (Nat.le_refl _)]; simp)
end
end Go.Proofs.YtgpbhmcmbigbdaaGreatDoor.G

/- What the document's Semijoin, Agree compute. -/
set_option linter.unusedVariables false
set_option linter.unusedSimpArgs false
namespace Go.Proofs.YtgpbhmcmbigbdaaGreatDoor.G
open Go.RowKit Go.Proofs.YtgpbhmcmbigbdaaGreatDoorW.PrintWords Go.Proofs.YtgpbhmcmbigbdaaGreatDoorW.PrintLast Go.Proofs.YtgpbhmcmbigbdaaGreatDoorW.PrintMore Go.Proofs.YtgpbhmcmbigbdaaGreatDoor.PRefs
theorem SemiR_yes (sa sb : List Int) (La Lb : List (List Int)) (hs : sa.Nodup) (hra : ∀ t ∈ La, t.length = sa.length) (hrb : ∀ t ∈ Lb, t.length = sb.length) (hsa : sa.length ≤ 1000) (hsb : sb.length ≤ 1000) (hla : La.length ≤ 100000) (hlb : Lb.length ≤ 100000) (i : Nat) (hi : i < La.length) : ∀ n j k (x : List (List Int)), j + n = Lb.length → x.length ≤ i →
    arboristref03_Semijoin.l1 (k + n + 1) (i : Int) true (j : Int) sa La sb Lb sa x = arboristref03_Semijoin.l0 k ((i + 1 : Nat) : Int) sa La sb Lb sa (x ++ [La[i]])
  | 0, j, k, x, h, hx => by
    have hA := hra _ (List.getElem_mem hi)
    unfold arboristref03_Semijoin.l1
    rw [if_neg (by omega), w1 i (by omega), if_pos (Eq.refl true), if_pos (by omega), if_pos (by omega), rd_L1_get La i hi, Copy_f _ (by omega)]
    rw [Option.bind_some]
    rw [if_pos (by omega)]
  | n + 1, j, k, x, h, hx => by
    rw [show k + (n + 1) + 1 = (k + n + 1) + 1 by omega]
    unfold arboristref03_Semijoin.l1
    rw [if_pos (by omega), if_pos (Eq.refl true), w1 j (by omega), SemiR_yes sa sb La Lb hs hra hrb hsa hsb hla hlb i hi n (j + 1) k x (by omega) hx]
theorem SemiR_no (sa sb : List Int) (La Lb : List (List Int)) (hs : sa.Nodup) (hra : ∀ t ∈ La, t.length = sa.length) (hrb : ∀ t ∈ Lb, t.length = sb.length) (hsa : sa.length ≤ 1000) (hsb : sb.length ≤ 1000) (hla : La.length ≤ 100000) (hlb : Lb.length ≤ 100000) (i : Nat) (hi : i < La.length) : ∀ n j k (x : List (List Int)), j + n = Lb.length → 5000 ≤ k → x.length ≤ i →
    arboristref03_Semijoin.l1 (k + n + 1) (i : Int) false (j : Int) sa La sb Lb sa x = arboristref03_Semijoin.l0 k ((i + 1 : Nat) : Int) sa La sb Lb sa (if (Lb.drop j).any (fits sa sb La[i]) = true then x ++ [La[i]] else x)
  | 0, j, k, x, h, hk, hx => by
    unfold arboristref03_Semijoin.l1
    rw [if_neg (by omega), if_neg Bool.false_ne_true, w1 i (by omega), List.drop_of_length_le (by omega), List.any_nil, if_neg Bool.false_ne_true]
  | n + 1, j, k, x, h, hk, hx => by
    have hj : j < Lb.length := by omega
    have hA := hra _ (List.getElem_mem hi)
    have hB := hrb _ (List.getElem_mem hj)
    rw [show k + (n + 1) + 1 = (k + n + 1) + 1 by omega]
    unfold arboristref03_Semijoin.l1
    rw [if_pos (by omega), if_neg Bool.false_ne_true, if_pos (by omega), if_pos (by omega), if_pos (by omega), rd_L1_get La i hi, rd_L1_get Lb j hj, Fit_f sa La[i] sb Lb[j] _ hs hA hB (by omega) (by omega) (by omega)]
    rw [Option.bind_some]
    rw [w1 j (by omega), drop_get Lb j hj, List.any_cons]
    cases hf : fits sa sb La[i] Lb[j] with
    | true => rw [SemiR_yes sa sb La Lb hs hra hrb hsa hsb hla hlb i hi n (j + 1) k x (by omega) hx, Bool.true_or, if_pos (Eq.refl true)]
    | false => rw [SemiR_no sa sb La Lb hs hra hrb hsa hsb hla hlb i hi n (j + 1) k x (by omega) hk hx, Bool.false_or]
theorem SemiR_l0 (sa sb : List Int) (La Lb : List (List Int)) (hs : sa.Nodup) (hra : ∀ t ∈ La, t.length = sa.length) (hrb : ∀ t ∈ Lb, t.length = sb.length) (hsa : sa.length ≤ 1000) (hsb : sb.length ≤ 1000) (hla : La.length ≤ 4000) (hlb : Lb.length ≤ 4000) : ∀ n i k (x : List (List Int)), i + n = La.length → n * (Lb.length + 2) + 10000 ≤ k → x.length ≤ i →
    arboristref03_Semijoin.l0 k (i : Int) sa La sb Lb sa x = some (sa, x ++ semiRows sa (La.drop i) sb Lb)
  | n, i, 0, _, _, h, _ => by omega
  | 0, i, k + 1, x, h, hk, hx => by
    unfold arboristref03_Semijoin.l0
    rw [if_neg (by omega), List.drop_of_length_le (by omega)]
    simp [semiRows]
  | n + 1, i, k + 1, x, h, hk, hx => by
    have hi : i < La.length := by omega
    have hk' : (n + 1) * (Lb.length + 2) = n * (Lb.length + 2) + (Lb.length + 2) := Nat.succ_mul _ _
    obtain ⟨k', rfl⟩ : ∃ j, k = j + Lb.length + 1 := ⟨k - Lb.length - 1, by omega⟩
    unfold arboristref03_Semijoin.l0
    rw [if_pos (by omega), show (0 : Int) = ((0 : Nat) : Int) from rfl, SemiR_no sa sb La Lb hs hra hrb hsa hsb (by omega) (by omega) i hi Lb.length 0 k' x (by omega) (by omega) hx, List.drop_zero]
    have e : semiRows sa (La.drop i) sb Lb = (if Lb.any (fits sa sb La[i]) = true then [La[i]] else []) ++ semiRows sa (La.drop (i + 1)) sb Lb := by
      rw [drop_get La i hi]
      unfold semiRows
      rw [List.filter_cons]
      split <;> rfl
    rw [e]
    by_cases hf : Lb.any (fits sa sb La[i]) = true
    · rw [if_pos hf, if_pos hf, SemiR_l0 sa sb La Lb hs hra hrb hsa hsb hla hlb n (i + 1) k' _ (by omega) (by omega) (by rw [List.length_append]; simp; omega), List.append_assoc]
    · rw [if_neg hf, if_neg hf, SemiR_l0 sa sb La Lb hs hra hrb hsa hsb hla hlb n (i + 1) k' _ (by omega) (by omega) (by omega), List.nil_append]
theorem SemiR_f {sa sb : List Int} {La Lb : List (List Int)} (h : RightP sa La) (h' : RightP sb Lb) (k : Nat) (hsa : sa.length ≤ 1000) (hsb : sb.length ≤ 1000) (hla : La.length ≤ 4000) (hlb : Lb.length ≤ 4000) (hk : 20000000 ≤ k) : arboristref03_Semijoin.f k sa La sb Lb = some (sa, semiRows sa La sb Lb) := by
  unfold arboristref03_Semijoin.f
  rw [Copy_f _ (by omega)]
  simp only [Option.bind_some]
  have hm : La.length * (Lb.length + 2) ≤ 4000 * 4002 := Nat.mul_le_mul hla (by omega)
  have := SemiR_l0 sa sb La Lb h.1.1.nodup h.2.1 h'.2.1 hsa hsb hla hlb La.length 0 k [] (by omega) (by omega) (by simp)
  rw [show ((0 : Nat) : Int) = 0 from rfl] at this
  rw [this]; rfl
theorem projRel_len {sc : List Int} (L : List (List Int)) (vars : List Int) (h : Rise sc) : (projRel sc L vars).1.length ≤ sc.length := by
  show (onto sc vars).length ≤ _
  rw [onto_eq sc vars h]
  exact List.length_filter_le _ _
theorem projRel_rows (sc : List Int) (L : List (List Int)) (vars : List Int) : (projRel sc L vars).2.length ≤ L.length := cutRows_len _ _ _
theorem AgreeR_f {sa sb : List Int} {La Lb : List (List Int)} (h : Sm sa La) (h' : Sm sb Lb) (k : Nat) (hk : 7000000 ≤ k) : arboristref03_Agree.f k sa La sb Lb = some (decide (projRel sa La sb = projRel sb Lb sa)) := by
  have hs := h.s
  have hl := h.l
  have hs' := h'.s
  have hl' := h'.l
  have hp := h.rt.proj sb
  have hp' := h'.rt.proj sa
  unfold arboristref03_Agree.f
  rw [ProjectR_f sa La sb k h.rt.r.1.1 (by omega) (by omega) (by omega) hk]
  simp only [Option.bind_some]
  rw [ProjectR_f sb Lb sa k h'.rt.r.1.1 (by omega) (by omega) (by omega) hk]
  simp only [Option.bind_some]
  have e1 := projRel_len La sb h.rt.r.1.1
  have e2 := projRel_len Lb sa h'.rt.r.1.1
  have e3 := projRel_rows sa La sb
  rw [Same_f _ _ _ _ k (by omega) (by omega) (by omega) (fun x hx => by rw [hp.r.2.1 x hx]; omega) (fun x hx => by rw [hp'.r.2.1 x hx]; omega) (by omega)]
  simp only [Option.bind_some]
  congr 1
  rw [decide_eq_decide, Prod.ext_iff]
section
variable {w : World} {A A' B B' : Option Addr} {c c' d d' : Nat} {sa sb : List Int} {La Lb : List (List Int)}
theorem docsemi_is (h : RelRd w A c sa A' c' La) (h' : RelRd w B d sb B' d' Lb) (hr : RightP sa La) (hr' : RightP sb Lb) (hsa : sa.length ≤ 1000) (hsb : sb.length ≤ 1000) (hla : La.length ≤ 4000) (hlb : Lb.length ≤ 4000) {S : List (List Int)} (hS : semiRows sa La sb Lb = S) :
    Calls Tryz.prog 14 #[.agg #[.slice A sa.length c, .slice A' La.length c'], .agg #[.slice B sb.length d, .slice B' Lb.length d']] w fun e w' => RelTo w w' e sa S := by
  refine (arboristref03_Semijoin.calls 20000000 A c sa A' c' La B d sb B' d' Lb sa S w h.row h.cap h.rows h.cap2 h'.row h'.cap h'.rows h'.cap2 (by rw [← hS]; exact SemiR_f hr hr' _ hsa hsb hla hlb (Nat.le_refl _))).mono ?_
  rintro e w' ⟨v0, v1, rfl, hR, hS, hb⟩
  obtain ⟨A1, c1, rfl, hl1, hr1⟩ := Kd.R_reads hR
  obtain ⟨A2, c2, rfl, hl2, hr2⟩ := Kd.N_reads (Kd.S_N hS)
  exact ⟨A1, c1, A2, c2, rfl, ⟨hr1, hl1, hr2, hl2⟩, hb⟩
theorem docagree_is (h : RelRd w A c sa A' c' La) (h' : RelRd w B d sb B' d' Lb) (hr : Sm sa La) (hr' : Sm sb Lb) (b : Bool) (hb : decide (projRel sa La sb = projRel sb Lb sa) = b) :
    Calls Tryz.prog 16 #[.agg #[.slice A sa.length c, .slice A' La.length c'], .agg #[.slice B sb.length d, .slice B' Lb.length d']] w fun e w' => e = .returned (.bool b) ∧ Below w.heap.size w w' :=
  arboristref03_Agree.calls 7000000 A c sa A' c' La B d sb B' d' Lb b w h.row h.cap h.rows h.cap2 h'.row h'.cap h'.rows h'.cap2 (by rw [← hb]; exact AgreeR_f hr hr' _ (Nat.le_refl _))
theorem docjoin_is (h : RelRd w A c sa A' c' La) (h' : RelRd w B d sb B' d' Lb) (hr : RightP sa La) (hr' : RightP sb Lb) (hsa : sa.length ≤ 1000) (hsb : sb.length ≤ 1000) (hla : La.length ≤ 4000) (hlb : Lb.length ≤ 12) {U : List Int} {J : List (List Int)} (hU : uni sa sb = U) (hJ : joinRows sa La sb Lb = J) :
    Calls Tryz.prog 11 #[.agg #[.slice A sa.length c, .slice A' La.length c'], .agg #[.slice B sb.length d, .slice B' Lb.length d']] w fun e w' => RelTo w w' e U J := by
  refine (arboristref03_Join.calls 20000000000 A c sa A' c' La B d sb B' d' Lb U J w h.row h.cap h.rows h.cap2 h'.row h'.cap h'.rows h'.cap2 (by rw [← hU, ← hJ]; exact JoinR_f hr hr' _ hsa hsb hla hlb (Nat.le_refl _))).mono ?_
  rintro e w' ⟨v0, v1, rfl, hR, hN, hb⟩
  obtain ⟨A1, c1, rfl, hl1, hr1⟩ := Kd.R_reads hR
  obtain ⟨A2, c2, rfl, hl2, hr2⟩ := Kd.N_reads hN
  exact ⟨A1, c1, A2, c2, rfl, ⟨hr1, hl1, hr2, hl2⟩, hb⟩
end
end Go.Proofs.YtgpbhmcmbigbdaaGreatDoor.G
