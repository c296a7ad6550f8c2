/- Several texts of this claim in one. -/
import Derived.Test.YtgpbhmcmbigbdaaGreatDoorPAll
import Derived.Test.YtgpbhmcmbigbdaaGreatDoorBox
import Derived.Test.YtgpbhmcmbigbdaaGreatDoorMeet
/- The document's answer for layer 2, as the print tells it: Same, Right. -/
set_option linter.unusedVariables false
set_option linter.unusedSimpArgs false
namespace Go.Proofs.YtgpbhmcmbigbdaaGreatDoor.G
open Go.RowKit Go.Proofs.YtgpbhmcmbigbdaaGreatDoorW.PrintWords Go.Proofs.YtgpbhmcmbigbdaaGreatDoorW.PrintLast Go.Proofs.YtgpbhmcmbigbdaaGreatDoorW.PrintMore Go.Proofs.YtgpbhmcmbigbdaaGreatDoor.PRefs

theorem drop_get {α : Type} (L : List α) (i : Nat) (h : i < L.length) : L.drop i = L[i] :: L.drop (i + 1) := List.drop_eq_getElem_cons h

theorem Same_l0 (sa sb : List Int) (La Lb : List (List Int)) (he : La.length = Lb.length) (hl : La.length ≤ 1000000) (hx : ∀ x ∈ La, x.length ≤ 1000000) (hy : ∀ x ∈ Lb, x.length ≤ 1000000) : ∀ n i k, i + n = La.length → n + 3000000 < k → arboristref02_Same.l0 k (i : Int) sa La sb Lb = some (decide (La.drop i = Lb.drop i))
  | 0, i, 0, _, h => by omega
  | 0, i, k + 1, h, _ => by
    unfold arboristref02_Same.l0
    rw [if_neg (by omega), List.drop_of_length_le (by omega), List.drop_of_length_le (by omega)]; simp
  | n + 1, i, 0, _, h => by omega
  | n + 1, i, k + 1, h, hk => by
    have h1 : La[i].length ≤ 1000000 := hx _ (List.getElem_mem (by omega))
    have h2 : Lb[i].length ≤ 1000000 := hy _ (List.getElem_mem (by omega))
    unfold arboristref02_Same.l0
    rw [if_pos (by omega), if_pos (by omega), if_pos (by omega), rd_L1_get La i (by omega), rd_L1_get Lb i (by omega), Compare_f _ _ k (by omega) (by omega) (by omega)]
    simp only [Option.bind_some]
    have hd1 := drop_get La i (by omega)
    have hd2 := drop_get Lb i (by omega)
    by_cases hc : La[i] = Lb[i]
    · rw [if_pos ((Pl.cmp_eq _ _).2 hc), w1 i (by omega), Same_l0 sa sb La Lb he hl hx hy n (i + 1) k (by omega) (by omega)]
      congr 1
      rw [decide_eq_decide, hd1, hd2, hc]
      exact ⟨fun h => by rw [h], fun h => (List.cons.inj h).2⟩
    · rw [if_neg (fun h => hc ((Pl.cmp_eq _ _).1 h)), decide_eq_false]
      rw [hd1, hd2]
      exact fun h => hc (List.cons.inj h).1
theorem Same_f (sa sb : List Int) (La Lb : List (List Int)) (k : Nat) (ha : sa.length ≤ 1000000) (hb : sb.length ≤ 1000000) (hl : La.length ≤ 1000000) (hx : ∀ x ∈ La, x.length ≤ 1000000) (hy : ∀ x ∈ Lb, x.length ≤ 1000000) (hk : 5000000 ≤ k) : arboristref02_Same.f k sa La sb Lb = some (decide (sa = sb ∧ La = Lb)) := by
  have hj : ∀ k, 4999999 ≤ k → La.length = Lb.length → arboristref02_Same.j0 k false sa La sb Lb = some (decide (La = Lb)) := fun k hk he => by
    obtain ⟨k, rfl⟩ : ∃ j, k = j + 1 := ⟨k - 1, by omega⟩
    unfold arboristref02_Same.j0
    have := Same_l0 sa sb La Lb he hl hx hy La.length 0 k (by omega) (by omega)
    simpa using this
  have hj1 : ∀ k, 0 < k → arboristref02_Same.j0 k true sa La sb Lb = some false := fun k hk => by
    obtain ⟨k, rfl⟩ : ∃ j, k = j + 1 := ⟨k - 1, by omega⟩
    unfold arboristref02_Same.j0; rfl
  unfold arboristref02_Same.f
  by_cases he : La.length = Lb.length
  · rw [if_pos (by omega), Compare_f sa sb k (by omega) (by omega) (by omega)]
    simp only [Option.bind_some]
    by_cases hc : sa = sb
    · rw [(Pl.cmp_eq _ _).2 hc, show ((0 : Int) != 0) = false from rfl, hj k (by omega) he]
      simp [hc]
    · have hn : Pl.cmp sa sb ≠ 0 := fun h => hc ((Pl.cmp_eq _ _).1 h)
      rw [bne_iff_ne.2 hn, hj1 k (by omega)]
      simp [hc]
  · rw [if_neg (by omega), hj1 k (by omega)]
    have : La ≠ Lb := fun e => he (by rw [e])
    simp [this]

section
variable {w : World} {A : Option Addr} {c : Nat} {sc : List Int} {A' : Option Addr} {c' : Nat} {L : List (List Int)} {B : Option Addr} {d : Nat} {sd : List Int} {B' : Option Addr} {d' : Nat} {M : List (List Int)}
end
end Go.Proofs.YtgpbhmcmbigbdaaGreatDoor.G

/- The document's answer for layer 2, as the print tells it: Place. -/
set_option linter.unusedVariables false
set_option linter.unusedSimpArgs false
namespace Go.Proofs.YtgpbhmcmbigbdaaGreatDoor.G
open Go.RowKit Go.Proofs.YtgpbhmcmbigbdaaGreatDoorW.PrintWords Go.Proofs.YtgpbhmcmbigbdaaGreatDoorW.PrintLast Go.Proofs.YtgpbhmcmbigbdaaGreatDoorW.PrintMore Go.Proofs.YtgpbhmcmbigbdaaGreatDoor.PRefs

theorem Place_l0 (x0 : List Int) (x1 : Int) (hl : x0.length ≤ 1000000000) : ∀ n i k, i + n = x0.length → n < k → arboristref02_Place.l0 k x0 x1 (i : Int) = some (if x1 ∈ x0.drop i then ((i + (x0.drop i).idxOf x1 : Nat) : Int) else -1)
  | n, i, 0, _, h => by omega
  | 0, i, k + 1, h, _ => by
    unfold arboristref02_Place.l0
    rw [if_neg (by omega), List.drop_of_length_le (by omega)]; simp
  | n + 1, i, k + 1, h, hk => by
    unfold arboristref02_Place.l0
    rw [if_pos (by omega), if_pos (by omega), drop_rd x0 i (by omega)]
    by_cases he : rd x0 (i : Int) = x1
    · rw [if_pos he, he, if_pos List.mem_cons_self, List.idxOf_cons_self]; rfl
    · rw [if_neg he, w1 i (by omega), Place_l0 x0 x1 hl n (i + 1) k (by omega) (by omega)]
      congr 1
      by_cases hm : x1 ∈ x0.drop (i + 1)
      · rw [if_pos hm, if_pos (List.mem_cons_of_mem _ hm), List.idxOf_cons, show (rd x0 (i : Int) == x1) = false from beq_eq_false_iff_ne.2 he]
        show ((i + 1 + List.idxOf x1 (List.drop (i + 1) x0) : Nat) : Int) = ((i + (List.idxOf x1 (List.drop (i + 1) x0) + 1) : Nat) : Int)
        omega
      · rw [if_neg hm, if_neg (fun h => (List.mem_cons.1 h).elim (fun e => he e.symm) hm)]
theorem Place_f (l : List Int) (a : Int) (k : Nat) (hl : l.length ≤ 1000000000) (hk : l.length < k) : arboristref02_Place.f k l a = some (idx l a) := by
  unfold arboristref02_Place.f
  have := Place_l0 l a hl l.length 0 k (by omega) hk
  simpa [idx] using this
end Go.Proofs.YtgpbhmcmbigbdaaGreatDoor.G

/- The document's answer for layer 3, as the print tells it: Fit, Both, Join, All. -/
set_option linter.unusedVariables false
set_option linter.unusedSimpArgs false
namespace Go.Proofs.YtgpbhmcmbigbdaaGreatDoor.G
open Go.RowKit Go.Proofs.YtgpbhmcmbigbdaaGreatDoorW.PrintWords Go.Proofs.YtgpbhmcmbigbdaaGreatDoorW.PrintLast Go.Proofs.YtgpbhmcmbigbdaaGreatDoorW.PrintMore Go.Proofs.YtgpbhmcmbigbdaaGreatDoor.PRefs

theorem idx_at {sc : List Int} (h : sc.Nodup) (i : Nat) (hi : i < sc.length) : idx sc (rd sc (i : Int)) = (i : Int) := by
  rw [rd_get sc i hi, (idx_in (List.getElem_mem hi)).1, h.idxOf_getElem i hi]
theorem Fit_l0 (s t u v : List Int) (hs : s.Nodup) (ht : t.length = s.length) (hv : v.length = u.length) (hl : s.length ≤ 1000000) (hu : u.length ≤ 1000000) : ∀ n i k, i + n = s.length → n + u.length + 1 < k → arboristref03_Fit.l0 k s t u v (i : Int) = some (decide (∀ a ∈ s.drop i, a ∈ u → look s t a = look u v a))
  | n, i, 0, _, h => by omega
  | 0, i, k + 1, h, _ => by
    unfold arboristref03_Fit.l0
    rw [if_neg (by omega), List.drop_of_length_le (by omega)]; simp
  | n + 1, i, k + 1, h, hk => by
    unfold arboristref03_Fit.l0
    have hi : i < s.length := by omega
    rw [if_pos (by omega), if_pos (by omega), Place_f u _ k (by omega) (by omega), drop_rd s i hi]
    simp only [Option.bind_some]
    have hla : look s t (rd s (i : Int)) = rd t (i : Int) := by unfold look; rw [idx_at hs i hi]
    by_cases hm : rd s (i : Int) ∈ u
    · obtain ⟨h1, h2⟩ := idx_in hm
      rw [if_pos (by omega), if_pos (by omega), if_pos (by omega), if_pos (by omega)]
      have hlb : look u v (rd s (i : Int)) = rd v (idx u (rd s (i : Int))) := rfl
      by_cases he : rd v (idx u (rd s (i : Int))) = rd t (i : Int)
      · rw [if_pos he, w1 i (by omega), Fit_l0 s t u v hs ht hv hl hu n (i + 1) k (by omega) (by omega)]
        congr 1
        rw [decide_eq_decide]
        exact ⟨fun hh a ha hau => (List.mem_cons.1 ha).elim (fun e => by rw [e, hla, hlb, he]) fun ha => hh a ha hau, fun hh a ha => hh a (List.mem_cons_of_mem _ ha)⟩
      · rw [if_neg he, decide_eq_false]
        exact fun hh => he (by have := hh _ List.mem_cons_self hm; rw [hla, hlb] at this; exact this.symm)
    · rw [if_neg (by rw [idx_out hm]; omega), w1 i (by omega), Fit_l0 s t u v hs ht hv hl hu n (i + 1) k (by omega) (by omega)]
      congr 1
      rw [decide_eq_decide]
      exact ⟨fun hh a ha hau => (List.mem_cons.1 ha).elim (fun e => absurd (e ▸ hau) hm) fun ha => hh a ha hau, fun hh a ha => hh a (List.mem_cons_of_mem _ ha)⟩
theorem Fit_f (s t u v : List Int) (k : Nat) (hs : s.Nodup) (ht : t.length = s.length) (hv : v.length = u.length) (hl : s.length ≤ 1000000) (hu : u.length ≤ 1000000) (hk : s.length + u.length + 1 < k) : arboristref03_Fit.f k s t u v = some (fits s u t v) := by
  unfold arboristref03_Fit.f
  have := Fit_l0 s t u v hs ht hv hl hu s.length 0 k (by omega) (by omega)
  rw [show ((0 : Nat) : Int) = 0 from rfl] at this
  rw [this]; rfl

theorem Both_l0 (s t u v al : List Int) (ht : t.length = s.length) (hv : v.length = u.length) (hl : s.length ≤ 1000000) (hu : u.length ≤ 1000000) (ha : al.length ≤ 1000000) (hin : ∀ a ∈ al, a ∈ s ∨ a ∈ u) : ∀ n i k (x : List Int), i + n = al.length → n + s.length + u.length + 1 < k → x.length ≤ i → arboristref03_Both.l0 k s t u v al x (i : Int) = some (x ++ (al.drop i).map fun a => if a ∈ s then look s t a else look u v a)
  | n, i, 0, _, _, h, _ => by omega
  | 0, i, k + 1, x, h, _, _ => by
    unfold arboristref03_Both.l0
    rw [if_neg (by omega), List.drop_of_length_le (by omega)]; simp
  | n + 1, i, k + 1, x, h, hk, hx => by
    unfold arboristref03_Both.l0
    have hi : i < al.length := by omega
    have hmem : rd al (i : Int) ∈ al := by rw [rd_get al i hi]; exact List.getElem_mem hi
    rw [if_pos (by omega), if_pos (by omega), Place_f s _ k (by omega) (by omega), drop_rd al i hi]
    simp only [Option.bind_some, List.map_cons]
    by_cases hm : rd al (i : Int) ∈ s
    · obtain ⟨h1, h2⟩ := idx_in hm
      rw [if_pos (by omega), if_pos (by omega), if_pos (by omega), if_pos (by omega), w1 i (by omega), Both_l0 s t u v al ht hv hl hu ha hin n (i + 1) k _ (by omega) (by omega) (by simp; omega), if_pos hm]
      simp [look]
    · have hm2 := (hin _ hmem).resolve_left hm
      obtain ⟨h1, h2⟩ := idx_in hm2
      rw [if_neg (by rw [idx_out hm]; omega), Place_f u _ k (by omega) (by omega)]
      simp only [Option.bind_some]
      rw [if_pos (by omega), if_pos (by omega), if_pos (by omega), w1 i (by omega), Both_l0 s t u v al ht hv hl hu ha hin n (i + 1) k _ (by omega) (by omega) (by simp; omega), if_neg hm]
      simp [look]
theorem Both_f (s t u v : List Int) (k : Nat) (ht : t.length = s.length) (hv : v.length = u.length) (hl : s.length ≤ 400000) (hu : u.length ≤ 400000) (hk : 2 * (s.length + u.length) + 1 < k) : arboristref03_Both.f k s t u v (uni s u) = some (bothRow s u t v) := by
  unfold arboristref03_Both.f
  have hn := uni_len s u
  have := Both_l0 s t u v (uni s u) ht hv (by omega) (by omega) (by omega) (fun a h => mem_uni.1 h) (uni s u).length 0 k [] (by omega) (by omega) (by simp)
  rw [show ((0 : Nat) : Int) = 0 from rfl] at this
  rw [this]; rfl

/-- The rows of b that go with a row of a. -/
def withOne (sa sb : List Int) (M : List (List Int)) (t : List Int) : List (List Int) := (M.filter (fits sa sb t)).map (bothRow sa sb t)
theorem withOne_len (sa sb : List Int) (M : List (List Int)) (t : List Int) : (withOne sa sb M t).length ≤ M.length := by unfold withOne; rw [List.length_map]; exact List.length_filter_le _ _
theorem withOne_yes {sa sb t u : List Int} (M : List (List Int)) (h : fits sa sb t u = true) : withOne sa sb (u :: M) t = [bothRow sa sb t u] ++ withOne sa sb M t := by unfold withOne; rw [List.filter_cons_of_pos h]; rfl
theorem withOne_no {sa sb t u : List Int} (M : List (List Int)) (h : ¬ fits sa sb t u = true) : withOne sa sb (u :: M) t = withOne sa sb M t := by unfold withOne; rw [List.filter_cons_of_neg h]
theorem JoinR_l1 (sa sb : List Int) (La Lb : List (List Int)) (hs : sa.Nodup) (hra : ∀ t ∈ La, t.length = sa.length) (hrb : ∀ t ∈ Lb, t.length = sb.length) (hsa : sa.length ≤ 1000) (hsb : sb.length ≤ 1000) (hla : La.length ≤ 100000) (hlb : Lb.length ≤ 100000) (i : Nat) (hi : i < La.length) : ∀ n j k (x : List (List Int)), j + n = Lb.length → 5000 ≤ k → x.length ≤ i * Lb.length + j →
    arboristref03_Join.l1 (k + n + 1) x (i : Int) (j : Int) sa La sb Lb (uni sa sb) = arboristref03_Join.l0 k (x ++ withOne sa sb (Lb.drop j) La[i]) ((i + 1 : Nat) : Int) sa La sb Lb (uni sa sb)
  | 0, j, k, x, h, _, _ => by
    unfold arboristref03_Join.l1
    rw [if_neg (by omega), List.drop_of_length_le (by omega), w1 i (by omega)]; simp [withOne]
  | n + 1, j, k, x, h, hk, hx => by
    have hj : j < Lb.length := by omega
    have hA := hra _ (List.getElem_mem hi)
    have hB := hrb _ (List.getElem_mem hj)
    have hm : i * Lb.length ≤ 100000 * 100000 := Nat.mul_le_mul (by omega) hlb
    rw [show k + (n + 1) + 1 = (k + n + 1) + 1 by omega]
    unfold arboristref03_Join.l1
    rw [if_pos (by omega), if_pos (by omega), if_pos (by omega), if_pos (by omega), rd_L1_get La i hi, rd_L1_get Lb j hj, Fit_f sa La[i] sb Lb[j] _ hs hA hB (by omega) (by omega) (by omega), drop_get Lb j hj]
    simp only [Option.bind_some]
    by_cases hf : fits sa sb La[i] Lb[j] = true
    · rw [if_pos hf, Both_f sa La[i] sb Lb[j] _ hA hB (by omega) (by omega) (by omega)]
      simp only [Option.bind_some]
      rw [if_pos (by omega), w1 j (by omega), JoinR_l1 sa sb La Lb hs hra hrb hsa hsb hla hlb i hi n (j + 1) k _ (by omega) hk (by simp; omega), withOne_yes _ hf, List.append_assoc]
    · rw [if_neg hf, w1 j (by omega), JoinR_l1 sa sb La Lb hs hra hrb hsa hsb hla hlb i hi n (j + 1) k _ (by omega) hk (by omega), withOne_no _ hf]
theorem JoinR_l0 (sa sb : List Int) (La Lb : List (List Int)) (hs : sa.Nodup) (hra : ∀ t ∈ La, t.length = sa.length) (hrb : ∀ t ∈ Lb, t.length = sb.length) (hsa : sa.length ≤ 1000) (hsb : sb.length ≤ 1000) (hla : La.length ≤ 4000) (hlb : Lb.length ≤ 12) : ∀ n i k (x : List (List Int)), i + n = La.length → n * (Lb.length + 2) + 10000000000 ≤ k → x.length ≤ i * Lb.length → (∀ y ∈ x, y.length ≤ 2000) →
    arboristref03_Join.l0 k x (i : Int) sa La sb Lb (uni sa sb) = some (uni sa sb, Pl.sortU (x ++ (La.drop i).flatMap (withOne sa sb Lb)))
  | n, i, 0, _, _, h, _, _ => by omega
  | 0, i, k + 1, x, h, hk, hx, hy => by
    unfold arboristref03_Join.l0
    have hm : i * Lb.length ≤ 4000 * 12 := Nat.mul_le_mul (by omega) hlb
    have hs2 : (x.length + 1) * (2 * 2000 + x.length + 10) ≤ 48001 * 52010 := Nat.mul_le_mul (by omega) (by omega)
    rw [if_neg (by omega), List.drop_of_length_le (by omega), Sort_f x 2000 k (by omega) (by omega) hy (by omega)]
    simp
  | n + 1, i, k + 1, x, h, hk, hx, hy => by
    have hi : i < La.length := by omega
    have hk' : (n + 1) * (Lb.length + 2) = n * (Lb.length + 2) + (Lb.length + 2) := Nat.succ_mul _ _
    obtain ⟨k', rfl⟩ : ∃ j, k = j + Lb.length + 1 := ⟨k - Lb.length - 1, by omega⟩
    unfold arboristref03_Join.l0
    rw [if_pos (by omega), show (0 : Int) = ((0 : Nat) : Int) from rfl, JoinR_l1 sa sb La Lb hs hra hrb hsa hsb (by omega) (by omega) i hi Lb.length 0 k' x (by omega) (by omega) (by omega), List.drop_zero]
    have hw := withOne_len sa sb Lb La[i]
    have hsu : (i + 1) * Lb.length = i * Lb.length + Lb.length := Nat.succ_mul _ _
    rw [JoinR_l0 sa sb La Lb hs hra hrb hsa hsb hla hlb n (i + 1) k' _ (by omega) (by omega) (by rw [List.length_append]; omega) (fun y h => (List.mem_append.1 h).elim (hy y) fun h => by
      unfold withOne at h
      obtain ⟨u, _, rfl⟩ := List.mem_map.1 h
      unfold bothRow
      rw [List.length_map]
      have := uni_len sa sb
      omega), drop_get La i hi, List.flatMap_cons, List.append_assoc]
theorem JoinR_f {sa sb : List Int} {La Lb : List (List Int)} (h : RightP sa La) (h' : RightP sb Lb) (k : Nat) (hsa : sa.length ≤ 1000) (hsb : sb.length ≤ 1000) (hla : La.length ≤ 4000) (hlb : Lb.length ≤ 12) (hk : 20000000000 ≤ k) : arboristref03_Join.f k sa La sb Lb = some (uni sa sb, joinRows sa La sb Lb) := by
  unfold arboristref03_Join.f
  rw [Unite_f sa sb k (by omega) (by omega) (by omega), uni_zip h.1.1 h'.1.1]
  simp only [Option.bind_some]
  have hm : La.length * (Lb.length + 2) ≤ 4000 * 14 := Nat.mul_le_mul hla (by omega)
  have := JoinR_l0 sa sb La Lb h.1.1.nodup h.2.1 h'.2.1 hsa hsb hla hlb La.length 0 k [] (by omega) (by omega) (by simp) (by simp)
  rw [show ((0 : Nat) : Int) = 0 from rfl] at this
  rw [this]; rfl
/-- What the document's All answers. -/
def allDoc (most : Int) (l : List S27) (acc : List Int × List (List Int)) : List Int × List (List Int) × Bool :=
  match allRel most l acc with
  | some r => (r.1, r.2, true)
  | none => ([], [], false)
theorem AllR_l0 (l : List S27) (most : Int) (hmo : most ≤ 4000) (hx : ∀ r ∈ l, Sm r.f0 r.f1) (hl : l.length ≤ 100) : ∀ n i k (acc : List Int × List (List Int)), i + n = l.length → 30000000000 + n ≤ k → Rt acc.1 acc.2 → acc.1.length ≤ 3 * i → acc.2.length ≤ 4000 →
    arboristref03_All.l0 k l most (i : Int) acc.1 acc.2 = some (allDoc most (l.drop i) acc)
  | n, i, 0, _, _, h, _, _, _ => by omega
  | 0, i, k + 1, acc, h, _, _, _, _ => by
    unfold arboristref03_All.l0
    rw [if_neg (by omega), List.drop_of_length_le (by omega)]; rfl
  | n + 1, i, k + 1, acc, h, hk, hr, hs, ha => by
    have hi : i < l.length := by omega
    have hm := hx _ (List.getElem_mem hi)
    have hms := hm.s
    have hml := hm.l
    unfold arboristref03_All.l0
    rw [if_pos (by omega), if_pos (by omega), getD_T l i hi, JoinR_f hr.r hm.rt.r k (by omega) (by omega) ha (by omega) (by omega), drop_get l i hi]
    simp only [Option.bind_some]
    by_cases hc : ((joinRows acc.1 acc.2 l[i].f0 l[i].f1).length : Int) ≤ most
    · have hul := uni_len acc.1 l[i].f0
      rw [if_neg (by omega), w1 i (by omega)]
      have := AllR_l0 l most hmo hx hl n (i + 1) k (uni acc.1 l[i].f0, joinRows acc.1 acc.2 l[i].f0 l[i].f1) (by omega) (by omega) (rt_join hr hm.rt (by omega) (by omega)) (show (uni acc.1 l[i].f0).length ≤ 3 * (i + 1) by omega) (show (joinRows acc.1 acc.2 l[i].f0 l[i].f1).length ≤ 4000 by omega)
      rw [this]
      simp only [allDoc, allRel]
      rw [if_pos hc]
    · rw [if_pos (by omega)]
      simp only [allDoc, allRel]
      rw [if_neg hc]
theorem AllR_f (l : List S27) (most : Int) (hmo : most ≤ 4000) (hx : ∀ r ∈ l, Sm r.f0 r.f1) (hl : l.length ≤ 100) : arboristref03_All.f 40000000000 l most = some (allDoc most l ([], [[]])) := by
  unfold arboristref03_All.f
  have := AllR_l0 l most hmo hx hl l.length 0 40000000000 ([], [[]]) (by omega) (by omega) rt_unit (by simp) (by simp)
  rw [show ((0 : Nat) : Int) = 0 from rfl] at this
  exact this
end Go.Proofs.YtgpbhmcmbigbdaaGreatDoor.G

/- All of some small relations joined: the program's All and the document's. -/
set_option linter.unusedVariables false
set_option linter.unusedSimpArgs false
namespace Go.Proofs.YtgpbhmcmbigbdaaGreatDoor.G
open Go.RowKit Go.Proofs.YtgpbhmcmbigbdaaGreatDoorW.PrintWords Go.Proofs.YtgpbhmcmbigbdaaGreatDoorW.PrintLast Go.Proofs.YtgpbhmcmbigbdaaGreatDoorW.PrintMore Go.Proofs.YtgpbhmcmbigbdaaGreatDoor.PRefs

theorem allRel_rt (most : Int) (hmo : most ≤ 4000) : ∀ (l : List S27) (acc r : List Int × List (List Int)), (∀ q ∈ l, Sm q.f0 q.f1) → Rt acc.1 acc.2 → acc.1.length + 3 * l.length ≤ 300 → acc.2.length ≤ 4000 → allRel most l acc = some r → Rt r.1 r.2 ∧ r.1.length ≤ 300 ∧ r.2.length ≤ 4000
  | [], acc, r, _, ha, hs, hl, h => by
    obtain rfl := Option.some.inj h
    exact ⟨ha, by simp at hs; omega, hl⟩
  | q :: l, acc, r, hq, ha, hs, hl, h => by
    have hm := hq q List.mem_cons_self
    have hms := hm.s
    rw [List.length_cons] at hs
    rw [allRel] at h
    split at h
    · rename_i hc
      have hul := uni_len acc.1 q.f0
      exact allRel_rt most hmo l _ r (fun x hx => hq x (List.mem_cons_of_mem _ hx)) (rt_join ha hm.rt (by omega) (by omega)) (show (uni acc.1 q.f0).length + 3 * l.length ≤ 300 by omega) (show (joinRows acc.1 acc.2 q.f0 q.f1).length ≤ 4000 by omega) h
    · cases h
section
variable {w : World} {A0 : Option Addr} {c0 : Nat}
theorem docall_is {l : List S27} {most : Int} (hr0 : Kd.C k27 w A0 l.length l) (hc0 : l.length ≤ c0) {U : List Int} {J : List (List Int)} {b : Bool} (hF : arboristref03_All.f 40000000000 l most = some (U, J, b)) :
    Calls Tryz.prog 28 #[.slice A0 l.length c0, .int .i64 most] w fun e w' => ∃ A c D d, e = .returned (.tuple #[.agg #[.slice A U.length c, .slice D J.length d], .bool b]) ∧ RelRd w' A c U D d J ∧ Below w.heap.size w w' := by
  refine (arboristref03_All.calls 40000000000 A0 c0 l most U J b w hr0 hc0 hF).mono ?_
  rintro e w' ⟨v0, v1, rfl, hR, hN, hb⟩
  obtain ⟨A3, c3, rfl, hl3, hr3⟩ := Kd.R_reads hR
  obtain ⟨A4, c4, rfl, hl4, hr4⟩ := Kd.N_reads hN
  exact ⟨A3, c3, A4, c4, rfl, ⟨hr3, hl3, hr4, hl4⟩, hb⟩
theorem docsame_is {A : Option Addr} {c : Nat} {sc : List Int} {A' : Option Addr} {c' : Nat} {L : List (List Int)} {B : Option Addr} {d : Nat} {B' : Option Addr} {d' : Nat} (h : RelRd w A c sc A' c' L) (h' : RelRd w B d sc B' d' L) (hs : sc.length ≤ 300) (hl : L.length ≤ 4000) (hx : ∀ x ∈ L, x.length = sc.length) :
    Calls Tryz.prog 12 #[.agg #[.slice A sc.length c, .slice A' L.length c'], .agg #[.slice B sc.length d, .slice B' L.length d']] w fun e w' => e = .returned (.bool true) ∧ Below w.heap.size w w' :=
  arboristref02_Same.calls 5000000 A c sc A' c' L B d sc B' d' L true w h.row h.cap h.rows h.cap2 h'.row h'.cap h'.rows h'.cap2 (by rw [Same_f sc sc L L 5000000 (by omega) (by omega) (by omega) (fun x hy => by rw [hx x hy]; omega) (fun x hy => by rw [hx x hy]; omega) (Nat.le_refl _)]; simp)
end
end Go.Proofs.YtgpbhmcmbigbdaaGreatDoor.G
