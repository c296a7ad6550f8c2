/- Several texts of this claim in one. -/
import Derived.Test.YtlmkgghpaaadhaaGreatDoorSemi
import Derived.Test.YtlmkgghpaaadhaaGreatDoorBox
/- join.Join: what goes together of both. -/
set_option linter.unusedVariables false
set_option linter.unusedSimpArgs false
namespace Go.Proofs.YtlmkgghpaaadhaaGreatDoor.G
open Go.RowKit Go.Proofs.YtlmkgghpaaadhaaGreatDoorW.PrintWords Go.Proofs.YtlmkgghpaaadhaaGreatDoorW.PrintLast Go.Proofs.YtlmkgghpaaadhaaGreatDoorW.PrintMore

def joinTo (sa : List Int) (La : List (List Int)) (sb : List Int) (Lb : List (List Int)) (most : Int) : List Int × List (List Int) := if ((rawJoin sa La sb Lb).length : Int) ≤ most then (uni sa sb, Pl.sortU (rawJoin sa La sb Lb)) else ([], [])
def joinErr (sa : List Int) (La : List (List Int)) (sb : List Int) (Lb : List (List Int)) (most : Int) : Int := if ((rawJoin sa La sb Lb).length : Int) ≤ most then 0 else 9
theorem flatMap_take_succ {α β : Type} (L : List α) (f : α → List β) (d : α) (k : Nat) (h : k < L.length) : (L.take (k + 1)).flatMap f = (L.take k).flatMap f ++ f (L.getD k d) := by
  rw [List.take_succ_eq_append_getElem h, List.flatMap_append, List.getD_eq_getElem?_getD, List.getElem?_eq_getElem h]; simp
theorem flatMap_take_len {α β : Type} (L : List α) (f : α → List β) (k : Nat) : ((L.take k).flatMap f).length ≤ (L.flatMap f).length := by
  conv => rhs; rw [← List.take_append_drop k L, List.flatMap_append, List.length_append]
  omega
theorem map_take_succ {α β : Type} (L : List α) (f : α → β) (d : α) (k : Nat) (h : k < L.length) : (L.take (k + 1)).map f = (L.take k).map f ++ [f (L.getD k d)] := by
  rw [List.take_succ_eq_append_getElem h, List.map_append, List.getD_eq_getElem?_getD, List.getElem?_eq_getElem h]; simp

set_option maxHeartbeats 8000000 in
set_option maxRecDepth 100000 in
theorem join_any (A0 : Option Addr) (c0 : Nat) (sa : List Int) (A1 : Option Addr) (c1 : Nat) (La : List (List Int)) (A2 : Option Addr) (c2 : Nat) (sb : List Int) (A3 : Option Addr) (c3 : Nat) (Lb : List (List Int)) (most : Int) (w : World)
    (hr0 : Kd.C KI w A0 sa.length sa) (hc0 : sa.length ≤ c0) (hr1 : Kd.C KL w A1 La.length La) (hr2 : Kd.C KI w A2 sb.length sb) (hc2 : sb.length ≤ c2) (hr3 : Kd.C KL w A3 Lb.length Lb) (hm : sa.length ≤ 400000000) (hm' : sb.length ≤ 400000000) (hm1 : La.length ≤ 20000) (hm2 : Lb.length ≤ 20000) (hx1 : ∀ x ∈ La, x.length ≤ 100000000) (hx2 : ∀ x ∈ Lb, x.length ≤ 100000000) (hia : InR La) (hib : InR Lb) (htab : Tab w) :
    Calls Tryz.prog 66 #[.agg #[.slice A0 sa.length c0, .slice A1 La.length c1], .agg #[.slice A2 sb.length c2, .slice A3 Lb.length c3], .int .i64 most] w fun e w' => MakeTo w w' e (joinTo sa La sb Lb most) (joinErr sa La sb Lb most) := by
  have HR := Aside0.mk (And.intro hr0 (And.intro hr1 (And.intro hr2 hr3)))
  have HX := Aside0.mk (And.intro hx1 (And.intro hx2 (And.intro hia hib)))
  have HT := Aside0.mk htab
  clear hr0 hr1 hr2 hr3 hx1 hx2 hia hib htab
  obtain ⟨W0, hW0⟩ : ∃ W0, ((w.alloc (.cells #[.slice A0 sa.length c0, .slice A1 La.length c1] 31)).alloc (.cells #[.slice A2 sb.length c2, .slice A3 Lb.length c3] 31)).alloc (.cells #[.slice none 0 0, .slice none 0 0] 31) = W0 := ⟨_, rfl⟩
  have hI0 : UnInv w (.slice A0 sa.length c0) (.slice A1 La.length c1) (.slice A2 sb.length c2) (.slice A3 Lb.length c3) W0 := by rw [← hW0]; exact UnInv.start _ _ _ _ _ _ _
  have HI0 := Aside0.mk hI0
  clear hI0
  go_enter Tryz.func66, Tryz.ntmps66
  go_wp2
  clear hW0
  obtain ⟨r0, r1, r2, r3, _⟩ := HI0.out.all
  have hS := S4.start r0 r1 r2 r3
  have HSD := Aside0.mk (S4.step hS (below_drew (Below.refl _ _)))
  go_region_held3 (fun W => W.cell? ⟨w.heap.size, 0, none⟩ = some (.slice A0 sa.length c0) ∧ W.cell? ⟨w.heap.size, 1, none⟩ = some (.slice A1 La.length c1) ∧ W.cell? ⟨w.heap.size + 1, 0, none⟩ = some (.slice A2 sb.length c2) ∧ W.cell? ⟨w.heap.size + 1, 1, none⟩ = some (.slice A3 Lb.length c3) ∧ Below W0.heap.size W0 W)
      (first | with_reducible exact HS3A.out | with_reducible exact HS2A.out | with_reducible exact S4.step (by assumption) (below_alloc (Below.refl _ _) _) | with_reducible exact S4.step (by assumption) (below_drew (Below.refl _ _)))
      (first
        | (have hgd := HS2A; clear hgd; go_at_call 88; refine (tuple_Unite_any A0 c0 sa A2 c2 sb _ (Kd.C_below (Kd.C_below HR.out.1 HI0.out.bel) (S4.of (by assumption))) hc0 (Kd.C_below (Kd.C_below HR.out.2.2.1 HI0.out.bel) (S4.of (by assumption))) hc2 (by omega)).mono ?_; rintro e w3 ⟨v3, rfl, hv3, hb3⟩; have hS3 := S4.step (by assumption) hb3; have HS3A := Aside0.mk hS3; obtain ⟨Al, cl, rfl, hcl, _⟩ := Kd.R_reads hv3; have HV3 := Aside0.mk (And.intro hv3 (And.intro hb3 hcl)); clear hv3 hS3 hcl)
        | (go_at_call 87; refine (tuple_Meet_any A0 c0 sa A2 c2 sb _ (Kd.C_below (Kd.C_below HR.out.1 HI0.out.bel) (S4.of (by assumption))) hc0 (Kd.C_below (Kd.C_below HR.out.2.2.1 HI0.out.bel) (S4.of (by assumption))) hc2 (by omega)).mono ?_; rintro e w2 ⟨v2, rfl, hv2, hb2⟩; have hS2 := S4.step (by assumption) hb2; have HS2A := Aside0.mk hS2; obtain ⟨Ab, cb, rfl, hcb, hr2⟩ := Kd.R_reads hv2; have HV2 := Aside0.mk (And.intro hr2 hcb); clear hv2 hS2 hr2 hcb))
  have hBw3 := below_then HI0.out.bel HI0.out.bel.size (S4.of HS3A.out)
  have HJ3 := Aside0.mk (HI0.out.step (S4.of HS3A.out))
  have hcb3 := Kd.C_below HV2.out.1 HV3.out.2.1
  have hal3 := Kd.R_lower HV3.out.1 (show w.heap.size ≤ w2.heap.size from Nat.le_trans HI0.out.bel.size (S4.of HS2A.out).size)
  have hbl : (merge false true false sa sb).length ≤ 800000000 := Nat.le_trans (merge_len _ _ _ sa sb) (by omega)
  have hall : (merge true true true sa sb).length ≤ 800000000 := Nat.le_trans (merge_len _ _ _ sa sb) (by omega)
  obtain ⟨both, hboth⟩ : ∃ both, meetS sa sb = both := ⟨_, rfl⟩
  obtain ⟨all, hall2⟩ : ∃ all, uni sa sb = all := ⟨_, rfl⟩
  rw [show merge false true false sa sb = both from hboth] at hcb3 hbl ⊢
  rw [show merge true true true sa sb = all from hall2] at hal3 hall ⊢
  have HBO := Aside0.mk (And.intro hboth hall2)
  have HCB := Aside0.mk (And.intro hcb3 (And.intro hal3 (And.intro hBw3 (Kd.R_reads' hal3).2.2)))
  clear hboth hall2 hcb3 hal3 hBw3 HV2 HV3 hS HSD HS2A hb2 hb3 r0 r1 r2 r3
  obtain ⟨r0, r1, r2, r3, _⟩ := HJ3.out.all
  have hS := S4.start r0 r1 r2 r3
  have HSD := Aside0.mk (S4.step hS (below_drew (Below.refl _ _)))
  clear HS3A
  go_wp2
  go_region_held3 (fun W => W.cell? ⟨w.heap.size, 0, none⟩ = some (.slice A0 sa.length c0) ∧ W.cell? ⟨w.heap.size, 1, none⟩ = some (.slice A1 La.length c1) ∧ W.cell? ⟨w.heap.size + 1, 0, none⟩ = some (.slice A2 sb.length c2) ∧ W.cell? ⟨w.heap.size + 1, 1, none⟩ = some (.slice A3 Lb.length c3) ∧ Below w3.heap.size w3 W)
      (first | with_reducible exact HS6A.out | with_reducible exact HS5A.out | with_reducible exact HS4A.out | with_reducible exact S4.step (by assumption) (below_alloc (Below.refl _ _) _) | with_reducible exact S4.step (by assumption) (below_drew (Below.refl _ _)))
      (first
        | (have hgd := HS5A; clear hgd; go_at_call 89; refine hpl2.mono ?_; rintro e w6 ⟨v6, rfl, hv6, hb6⟩; have hS6 := S4.step (by assumption) hb6; have HS6A := Aside0.mk hS6; obtain ⟨A6, c6, rfl, _, hr6⟩ := Kd.R_reads hv6; have HV6 := Aside0.mk (And.intro hr6 hb6); clear hv6 hr6 hS6)
        | (have hgd := HS4A; clear hgd; go_at_call 90; (first | refine (concatI2_any w3.heap.size A0 c0 sa A2 c2 sb _ hbk (Kd.C_below (Kd.C_below HR.out.1 HCB.out.2.2.1) (S4.of (by assumption))) (Kd.C_below (Kd.C_below HR.out.2.2.1 HCB.out.2.2.1) (S4.of (by assumption))) hm hm').mono ?_ | refine (concatI2_any w4.heap.size A0 c0 sa A2 c2 sb _ (heap_alloc_new w4 _) (Kd.C_below (Kd.C_below HR.out.1 HCB.out.2.2.1) (S4.of (by assumption))) (Kd.C_below (Kd.C_below HR.out.2.2.1 HCB.out.2.2.1) (S4.of (by assumption))) hm hm').mono ?_); rintro e w5 ⟨v5, rfl, hv5, hb5⟩; have hS5 := S4.step (by assumption) hb5; have HS5A := Aside0.mk hS5; obtain ⟨A5, c5, rfl, _, hr5⟩ := Kd.N_reads hv5; have hpl2 := places_any A5 c5 (sa ++ sb) Al cl all w5 hr5 (Kd.C_below HCB.out.2.2.2 (S4.of hS5)) (by omega); rw [List.length_append] at hpl2; have HV5 := Aside0.mk hb5; clear hv5 hr5 hS5)
        | (go_at_call 89; refine (places_any A0 c0 sa Ab cb both _ (Kd.C_below (Kd.C_below HR.out.1 HCB.out.2.2.1) (S4.of (by assumption))) (Kd.C_below HCB.out.1 (S4.of (by assumption))) (by omega)).mono ?_; rintro e w4 ⟨v4, rfl, hv4, hb4⟩; have hS4 := S4.step (by assumption) hb4; have HS4A := Aside0.mk hS4; obtain ⟨A4, c4, rfl, _, hr4⟩ := Kd.R_reads hv4; have HV4 := Aside0.mk (And.intro hr4 hb4); try (have hbk := (hb4.block w3.heap.size (by simp)).trans (heap_alloc_new w3.drew (.cells #[.slice A0 sa.length c0, .slice A2 sb.length c2] 22))); clear hv4 hr4 hS4))
  all_goals
    have hb45 : Below w4.heap.size w4 w5 := by first | exact HV5.out | exact below_then (below_alloc (Below.refl _ _) _) (by simp) HV5.out
    have hb46 := below_then hb45 hb45.size HV6.out.2
    have HA6 := Aside0.mk (And.intro (Kd.C_below HV4.out.1 hb46) HV6.out.1)
    have HB36 := Aside0.mk (S4.of HS6A.out)
    have hJ6 := HJ3.out.step HB36.out
    have HJ6 := Aside0.mk hJ6
    have q0 := blk2_c0 hJ6.B
    have q1 := blk2_c1 hJ6.B
    have HBw6 := Aside0.mk hJ6.bel
    clear hb45 hb46 HV4 HV5 HV6 HS4A HS5A HS6A hS HSD r0 r1 r2 r3 hJ6
    go_wp2_with (first | (go_at_call 91; refine (index_any A2 c2 sb A3 c3 Lb Ab cb both w6 (Kd.C_below HR.out.2.2.1 HBw6.out) (fun q => q < w.heap.size) (Kd.F_below (Kd.C_F heap_KL HR.out.2.2.2) HBw6.out) (fun q hq => Nat.lt_of_lt_of_le hq HBw6.out.size) (Kd.C_below HCB.out.1 HB36.out) (by omega) (by omega) HX.out.2.2.2 (HT.out.step HBw6.out)).mono ?_; rintro e w7 ⟨gb, gbase, rfl, hG, hb7⟩; have HG7 := Aside0.mk (And.intro hG hb7); have hz2 := RowsOut.new (w4 := w7) (.slice Al all.length cl); have hJ7 := HJ6.out.step hb7; have hgl : w.heap.size + 1 + 1 < w7.heap.size := (by obtain ⟨x, y, hC⟩ := hJ7.C; exact (Array.getElem?_eq_some_iff.1 hC).1); have qz := blk2_c1 (hJ7.but hz2.but hgl).A; have HO := Aside0.mk hz2; have HJ7 := Aside0.mk hJ7; clear hG hb7 hz2 hJ7))
    generalize w7.alloc (.cells #[.slice Al all.length cl, .slice none 0 0] 31) = W8 at HO qz ⊢
    go_wp2
    clear qz q0 q1
    have HLK := Aside0.mk (fun (s : ByteArray) (hs : s.size ≤ Go.maxLen) => Groups.look (t := 135) (e := 23) HG7.out.1.1 Tryz.underlying9 Tryz.underlying135 zeroRows (g := w7.heap.size) (by have := HG7.out.1.1.lt3; omega) (by show ¬ w7.heap.size < w.heap.size; omega) (.inr (Nat.le_refl _)) s hs)
    have HB7 := Aside0.mk HG7.out.2
    have HAL7 := Aside0.mk (Kd.R_below HCB.out.2.1 (below_then HB36.out HB36.out.size HG7.out.2))
    have h67 := HG7.out.2.size
    obtain ⟨ats, hats⟩ : ∃ ats, ats = both.map (idx sa) := ⟨_, rfl⟩
    obtain ⟨fr, hfr⟩ : ∃ fr, fr = all.map (idx (sa ++ sb)) := ⟨_, rfl⟩
    have hatl : ats.length = both.length := by rw [hats, List.length_map]
    have hfrl : fr.length = all.length := by rw [hfr, List.length_map]
    rw [← hats, ← hfr] at HA6
    have HAF := Aside0.mk (And.intro hats hfr)
    clear hats hfr
    go_loopw [48] (fun i W => ∃ (k : Nat) (s1 : Value), k ≤ La.length ∧ i = .int .i64 k ∧ Aside0 (RowsOut w7 w7.heap.size (.slice Al all.length cl) s1 ((La.take k).flatMap (withRow sa sb Lb)) W) ∧ Aside0 ((La.take k).flatMap (withRow sa sb Lb) = [] ∨ (((La.take k).flatMap (withRow sa sb Lb)).length : Int) ≤ most)) (fun i _ => La.length - (intOf i).toNat)
    case atStart => exact ⟨0, _, Nat.zero_le _, rfl, ⟨by simpa using HO.out⟩, ⟨.inl (by simp)⟩⟩
    case round =>
      clear HO
      obtain ⟨k, s1, hk, rfl, HO, HM⟩ := hrel
      have HB6 := Aside0.mk (HO.out.but.below HB7.out HB7.out.size h67)
      have HBW := Aside0.mk (below_then HBw6.out HBw6.out.size HB6.out)
      by_cases hlt : k < La.length
      · obtain ⟨ad, Bx, cx, rfl, hx0, hlx, hcx⟩ := at_row HR.out.2.1 (Below.refl _ _) k hlt
        have hx := (HBW.out.cell (World.block_lt_of_cell? w _ hx0)).trans hx0
        clear hx0
        have hkl : (k : Int) < (La.length : Int) := by omega
        have hxl : (La.getD k []).length ≤ 100000000 := HX.out.1 _ (by rw [getD_get _ _ hlt]; exact List.getElem_mem hlt)
        have hxin : InR1 (La.getD k []) := HX.out.2.2.1 _ (by rw [getD_get _ _ hlt]; exact List.getElem_mem hlt)
        have hft := flatMap_take_succ La (withRow sa sb Lb) [] k hlt
        obtain ⟨x, hxe⟩ : ∃ x, x = La.getD k [] := ⟨_, rfl⟩
        rw [← hxe] at hx hlx hcx hxl hxin hft
        have hkin : InR1 (pick x ats) := fun y hy => hxin y (pick_mem hy)
        have hkl2 : (pick x ats).length ≤ 1000000000 := Nat.le_trans (pick_len x ats) (by omega)
        obtain ⟨Gk, hGk⟩ : ∃ Gk, groupOf sb Lb both (keyText (pick x ats)) = Gk := ⟨_, rfl⟩
        have hwr : withRow sa sb Lb x = Gk.map fun u => pick (x ++ u) fr := by
          unfold withRow
          rw [HBO.out.1, HBO.out.2, ← HAF.out.1, ← HAF.out.2, hGk]
        rw [hwr] at hft
        have hgm : ∀ u ∈ Gk, u.length ≤ 100000000 ∧ InR1 u := fun u hu => by
          rw [← hGk] at hu
          have := (List.mem_filter.1 hu).1
          exact ⟨HX.out.2.1 u this, HX.out.2.2.2 u this⟩
        have hgk : Gk.length ≤ Lb.length := by rw [← hGk]; exact group_len _ _ _ _
        have HXX := Aside0.mk (And.intro hcx (And.intro hkin (And.intro hGk (And.intro hlx (And.intro hft hgm)))))
        clear hcx hkin hGk hlx hxe hxin hft hwr hgm
        have hpk := tuple_Pick_any Bx cx x A4 c4 ats wr (Kd.C_below HXX.out.1 HBW.out) (Kd.C_below HA6.out.1 HB6.out) (by omega)
        rw [hatl] at hpk
        go_wp2_with (first
            | (go_at_call 76; refine hpk.mono ?_; rintro e w9 ⟨v9, rfl, hv9, hb9⟩; obtain ⟨A8, c8, rfl, _, hv8⟩ := Kd.R_reads hv9; have HP := Aside0.mk (And.intro hv8 hb9); clear hv9 hv8 hb9)
            | (go_at_call 92; refine (key_is HP.out.1 hkl2 HXX.out.2.1 (HT.out.step (below_then HBW.out HBW.out.size HP.out.2))).mono ?_; rintro e w10 ⟨s, rfl, hs, hb10⟩; have HK := Aside0.mk (below_then HP.out.2 HP.out.2.size hb10); obtain ⟨Ag, cg, hrun0, hcg, hFg⟩ := HLK.out s hs.2; have hrun := hrun0 w10 (HO.out.but.step HK.out); rw [hs.1, HXX.out.2.2.1] at hrun hcg hFg; have HFG := Aside0.mk (And.intro hcg hFg); clear hs hb10 hrun0 hcg hFg))
        have hrl := flatMap_take_len La (withRow sa sb Lb) (k + 1)
        have HO10 := Aside0.mk (HO.out.step HK.out)
        obtain ⟨X, hX⟩ : ∃ X, (La.take k).flatMap (withRow sa sb Lb) = X := ⟨_, rfl⟩
        rw [hX] at HO10 HM HXX
        rw [HXX.out.2.2.2.2.1, List.length_append, List.length_map] at hrl
        have HRL := Aside0.mk hrl
        clear hX hrl HO HP hpk hrun
        have HRB := Aside0.mk (show (La.flatMap (withRow sa sb Lb)).length ≤ 400000000 from Nat.le_trans (raw_len_le sa La sb Lb) (by have := Nat.mul_le_mul hm1 hm2; omega))
        go_loopw [59] (fun i W => ∃ (j : Nat) (s1 : Value), j ≤ Gk.length ∧ i = .int .i64 j ∧ Aside0 (RowsOut w7 w7.heap.size (.slice Al all.length cl) s1 (X ++ (Gk.take j).map fun u => pick (x ++ u) fr) W) ∧ Aside0 ((X ++ (Gk.take j).map fun u => pick (x ++ u) fr) = [] ∨ ((X ++ (Gk.take j).map fun u => pick (x ++ u) fr).length : Int) ≤ most)) (fun i _ => Gk.length - (intOf i).toNat)
        case atStart => exact ⟨0, s1, Nat.zero_le _, rfl, ⟨by simpa using HO10.out⟩, ⟨by simpa using HM.out⟩⟩
        case round =>
          clear HO10 HM HK
          obtain ⟨j, s1, hj, rfl, HO, HM⟩ := hrel
          have HB6 := Aside0.mk (HO.out.but.below HB7.out HB7.out.size h67)
          have HBW := Aside0.mk (below_then HBw6.out HBw6.out.size HB6.out)
          by_cases hjl : j < Gk.length
          · have hjk : (j : Int) < (Gk.length : Int) := by omega
            obtain ⟨ad2, By, cy, hAg, hy, hly, hcy, hfy⟩ := at_rowF (Kd.F_step HFG.out.2 (fun q hq hlt => HO.out.but.block q hlt hq)) (Below.refl _ _) j hjl
            subst hAg
            have hmt := map_take_succ Gk (fun u => pick (x ++ u) fr) [] j hjl
            have hum := HXX.out.2.2.2.2.2 (Gk.getD j []) (by rw [getD_get _ _ hjl]; exact List.getElem_mem hjl)
            obtain ⟨u, hue⟩ : ∃ u, Gk.getD j [] = u := ⟨_, rfl⟩
            rw [hue] at hy hly hcy hmt hum
            have HY := Aside0.mk (And.intro hcy (And.intro hly (And.intro hmt hum)))
            have hul := hum.1
            clear hcy hly hmt hum hue hfy
            obtain ⟨As, cs, rfl⟩ := Kd.N_slice HO.out.rows
            have hlen : (X ++ (Gk.take j).map fun u => pick (x ++ u) fr).length = X.length + j := by rw [List.length_append, List.length_map, List.length_take]; omega
            have HML := Aside0.mk hlen
            obtain ⟨XS, hXS⟩ : ∃ XS, (X ++ (Gk.take j).map fun u => pick (x ++ u) fr) = XS := ⟨_, rfl⟩
            rw [hXS] at HO HM HML
            have HXS := Aside0.mk hXS
            clear hXS hlen
            have qa := blk2_c1 HO.out.blk
            by_cases hge : most ≤ (XS.length : Int)
            · have hgd : decide (most ≤ (XS.length : Int)) = true := decide_eq_true hge
              have hno : ¬ ((rawJoin sa La sb Lb).length : Int) ≤ most := by
                have h1 := HRL.out
                have h2 := HML.out
                have h3 : (rawJoin sa La sb Lb).length = (La.flatMap (withRow sa sb Lb)).length := rfl
                omega
              have HNO := Aside0.mk (And.intro (show joinTo sa La sb Lb most = ([], []) from if_neg hno) (show joinErr sa La sb Lb most = 9 from if_neg hno))
              obtain ⟨x0, y0, hC⟩ := (HJ7.out.but HO.out.but hgl).C
              have p0 := blk2_c0 hC
              have p1 := blk_fr (i := 0) hC
              have hs0 := blk2_s0 hC (.slice none 0 0)
              have p2 := blk2_c1 hs0
              have p3 := blk_fr (i := 1) hs0
              have hs1 := blk2_s1 hs0 (.slice none 0 0)
              have q4 := blk2_c0 hs1
              have q5 := blk2_c1 hs1
              clear hs0 hs1 hC hno
              go_wp2
              refine bodyPost_ret (v := .tuple #[.agg #[.slice none 0 0, .slice none 0 0], .int .i64 9]) (by simp [results, Tryz.results66, go_sem, q4, q5]) rfl ?_
              rw [HNO.out.1, HNO.out.2]
              exact ⟨_, rfl, RelM.none_ _ _, (HBW.out.setCell (p := ⟨w.heap.size + 1 + 1, 0, none⟩) (show w.heap.size ≤ w.heap.size + 1 + 1 by omega) _).setCell (p := ⟨w.heap.size + 1 + 1, 1, none⟩) (show w.heap.size ≤ w.heap.size + 1 + 1 by omega) _⟩
            · have hgd : decide (most ≤ (XS.length : Int)) = false := decide_eq_false hge
              have hcx := Kd.C_below HXX.out.1 HBW.out
              have HCX := Aside0.mk (And.intro hcx (Kd.C_below HA6.out.2 HB6.out))
              clear hcx
              have hgl7 := (Array.getElem?_eq_some_iff.1 HO.out.blk).1
              have qa2 := blk2_c1 ((Below.heap_alloc wr.drew (.cells #[.slice Bx x.length cx, .slice By u.length cy] 22) _ hgl7).trans HO.out.blk)
              have HOK := Aside0.mk (show ∀ k, wr.heap.size ≤ k → (w7.heap.size ≤ k ∧ k ≠ w7.heap.size) ∧ some k ≠ (Value.slice As XS.length cs).ownBlock from fun k hk => ⟨⟨by omega, by omega⟩, fun e => by have := Kd.N_lt HO.out.rows k e.symm; omega⟩)
              have hXSl : XS.length ≤ 400000000 := by have h1 := HRL.out; have h2 := HML.out; have h3 := HRB.out; omega
              go_wp2_with fail
              go_region_law (first
                | (go_simp; go_at_call 90; refine (concatI2_any wr.heap.size Bx cx x By cy u (wr.drew.alloc (.cells #[.slice Bx x.length cx, .slice By u.length cy] 22)) (heap_alloc_new wr.drew _) (Kd.C_below HCX.out.1 (below_alloc (below_drew (Below.refl _ _)) _)) (Kd.C_below HY.out.1 (below_alloc (below_drew (Below.refl _ _)) _)) (by omega) (by omega)).mono ?_; rintro e w12 ⟨v12, rfl, hv12, hb12⟩; obtain ⟨A12, c12, rfl, _, hr12⟩ := Kd.N_reads hv12; have hbA := below_then (below_alloc (below_drew (Below.refl wr.heap.size wr)) (.cells #[.slice Bx x.length cx, .slice By u.length cy] 22)) (by simp) hb12; have hpk12 := tuple_Pick_any A12 c12 (x ++ u) A6 c6 fr w12 hr12 (Kd.C_below HCX.out.2 hbA) (by omega); rw [List.length_append, hfrl] at hpk12; have hbk12 := (hbA.block _ hgl7).trans HO.out.blk; have qb := blk2_c1 hbk12; have HB12 := Aside0.mk (And.intro hbA hbk12); clear hv12 hr12 hb12 hbA hbk12) | (go_simp; go_at_call 76; refine hpk12.mono ?_; rintro e w13 ⟨v13, rfl, hv13, hb13⟩; obtain ⟨A13, c13, rfl, _, _⟩ := Kd.R_reads hv13; have HV13 := Aside0.mk (And.intro hv13 hb13); have hbA := below_then HB12.out.1 HB12.out.1.size hb13; have hbk13 := (hbA.block _ hgl7).trans HO.out.blk; have qc := blk2_c1 hbk13; have qd := blk2_c1 ((Below.heap_alloc w13 (.cells #[.slice A13 (pick (x ++ u) fr).length c13] 22) _ (Array.getElem?_eq_some_iff.1 hbk13).1).trans hbk13); have HB13 := Aside0.mk (And.intro hbA hbk13); clear hv13 hb13 hbA hbk13) | ((refine Kd.N_append_step KL (w0 := w13) w7.heap.size (by rfl) (.tmp 70) (.tmp 77) 23 22 (.slice none 0 0) 24 rfl Tryz.underlying23 infoInts rfl (by decide) (by omega) (.slice As XS.length cs) XS (pick (x ++ u) fr) [.slice A13 (pick (x ++ u) fr).length c13] (fun k => w7.heap.size ≤ k ∧ k ≠ w7.heap.size) (fun k => wr.heap.size ≤ k) rfl rfl (Kd.FK_of_M (base := w12.heap.size) ⟨_, rfl, Kd.R_mono (Kd.R_bound HV13.out.1) (fun k hk => Nat.le_trans HB12.out.1.size hk.2.1)⟩) (fun k hk => HOK.out k hk) (fun k hk => (HOK.out k (Nat.le_trans HB13.out.1.size hk)).1) (Kd.N_below HO.out.rows HB13.out.1) (Below.refl _ _) (Nat.le_trans (Nat.le_of_lt hgl7) HB13.out.1.size) (by omega) ?_); intro v14 w14 hN hB hgr hat; obtain ⟨A14, c14, rfl⟩ := Kd.N_slice hN; have hbk14 := HO.out.at1 HB13.out.1 hgr; have qe := blk2_c1 hbk14; have qf := blk_fr (i := 1) hbk14; have HP14 := Aside0.mk (HO.out.push HB13.out.1 hgr hN); clear hN hB hgr hat hbk14))
              all_goals
                go_wp2_with fail
                go_roundw
                case measure => simp [intOf]; omega
                case rel =>
                  have h := HP14.out
                  rw [List.length_append] at h
                  have e : (X ++ (Gk.take (j + 1)).map fun u => pick (x ++ u) fr) = XS ++ [pick (x ++ u) fr] := by rw [HY.out.2.2.1, ← List.append_assoc, HXS.out]
                  exact ⟨j + 1, _, by omega, by go_num, ⟨by rw [e]; exact h⟩, ⟨.inr (by rw [e, List.length_append]; simp; omega)⟩⟩
          · have hje : j = Gk.length := by omega
            subst hje
            rw [List.take_length] at HO HM
            go_wp2
            go_roundw
            case measure => simp [intOf]; omega
            case rel =>
              refine ⟨k + 1, s1, by omega, by go_num, ⟨?_⟩, ⟨?_⟩⟩
              · rw [HXX.out.2.2.2.2.1]; exact HO.out
              · rw [HXX.out.2.2.2.2.1]; exact HM.out
      · have hke : k = La.length := by omega
        subst hke
        rw [List.take_length] at HO HM
        obtain ⟨R, hR⟩ : ∃ R, La.flatMap (withRow sa sb Lb) = R := ⟨_, rfl⟩
        have hRl : R.length ≤ 400000000 := by
          rw [← hR]
          exact Nat.le_trans (raw_len_le sa La sb Lb) (by have := Nat.mul_le_mul hm1 hm2; omega)
        have hRx : ∀ y ∈ R, y.length < 17592186044416 := fun y hy => by
          rw [← hR] at hy
          obtain ⟨t, ht, hy⟩ := List.mem_flatMap.1 hy
          unfold withRow at hy
          obtain ⟨u, hu, rfl⟩ := List.mem_map.1 hy
          have h1 := pick_len (t ++ u) ((uni sa sb).map (idx (sa ++ sb)))
          rw [List.length_map, HBO.out.2] at h1
          rw [HBO.out.2]
          omega
        have hRR : rawJoin sa La sb Lb = R := hR
        rw [hR] at HO HM
        have HRE := Aside0.mk (And.intro hRR hRx)
        clear hR hRR hRx
        obtain ⟨As, cs, rfl⟩ := Kd.N_slice HO.out.rows
        obtain ⟨x0, y0, hC⟩ := (HJ7.out.but HO.out.but hgl).C
        have HCC := Aside0.mk hC
        have qa := blk2_c1 HO.out.blk
        by_cases hgt : most < (R.length : Int)
        · have hgd : decide (most < (R.length : Int)) = true := decide_eq_true hgt
          have hno : ¬ ((rawJoin sa La sb Lb).length : Int) ≤ most := by rw [HRE.out.1]; omega
          have HNO := Aside0.mk (And.intro (show joinTo sa La sb Lb most = ([], []) from if_neg hno) (show joinErr sa La sb Lb most = 9 from if_neg hno))
          have p0 := blk2_c0 hC
          have p1 := blk_fr (i := 0) hC
          have hs0 := blk2_s0 hC (.slice none 0 0)
          have p2 := blk2_c1 hs0
          have p3 := blk_fr (i := 1) hs0
          have hs1 := blk2_s1 hs0 (.slice none 0 0)
          have q4 := blk2_c0 hs1
          have q5 := blk2_c1 hs1
          clear hs0 hs1 hC hno
          go_wp2
          refine bodyPost_ret (v := .tuple #[.agg #[.slice none 0 0, .slice none 0 0], .int .i64 9]) (by simp [results, Tryz.results66, go_sem, q4, q5]) rfl ?_
          rw [HNO.out.1, HNO.out.2]
          exact ⟨_, rfl, RelM.none_ _ _, (HBW.out.setCell (p := ⟨w.heap.size + 1 + 1, 0, none⟩) (show w.heap.size ≤ w.heap.size + 1 + 1 by omega) _).setCell (p := ⟨w.heap.size + 1 + 1, 1, none⟩) (show w.heap.size ≤ w.heap.size + 1 + 1 by omega) _⟩
        · have hgd : decide (most < (R.length : Int)) = false := decide_eq_false hgt
          have hyes : ((rawJoin sa La sb Lb).length : Int) ≤ most := by rw [HRE.out.1]; omega
          have HNO := Aside0.mk (And.intro (show joinTo sa La sb Lb most = (all, Pl.sortU R) from by rw [joinTo, if_pos hyes, HRE.out.1, HBO.out.2]) (show joinErr sa La sb Lb most = 0 from if_pos hyes))
          have hsort := tuple_Sort_any As cs R wr (Kd.N_reads' HO.out.rows).2.2 (by omega) HRE.out.2
          have HSO := Aside0.mk hsort
          clear hsort hyes hC
          go_wp2_with (go_at_call 93; refine HSO.out.mono ?_; rintro e w15 ⟨v15, rfl, hv15, hb15⟩; obtain ⟨A15, c15, rfl⟩ := Kd.N_slice hv15; have hO15 := HO.out.step hb15; have pa := blk2_c1 hO15.blk; have pb := blk_fr (i := 1) hO15.blk; have h16 := blk2_s1 hO15.blk (.slice A15 (Pl.sortU R).length c15); have q6 := blk2_c0 h16; have q7 := blk2_c1 h16; have hB16 := hO15.but.set 1 (.slice A15 (Pl.sortU R).length c15); obtain ⟨x1, y1, hC16⟩ := (HJ7.out.but hB16 hgl).C; have p0 := blk2_c0 hC16; have p1 := blk_fr (i := 0) hC16; have hs0 := blk2_s0 hC16 (.slice Al all.length cl); have p2 := blk2_c1 hs0; have p3 := blk_fr (i := 1) hs0; have hs1 := blk2_s1 hs0 (.slice A15 (Pl.sortU R).length c15); have q4 := blk2_c0 hs1; have q5 := blk2_c1 hs1; have HF := Aside0.mk (And.intro hv15 (And.intro hb15 (And.intro hB16 (And.intro hC16 hs0)))); clear hv15 hb15 hO15 h16 hB16 hC16 hs0 hs1)
          refine bodyPost_ret (v := .tuple #[.agg #[.slice Al all.length cl, .slice A15 (Pl.sortU R).length c15], .int .i64 0]) (by simp [results, Tryz.results66, go_sem, q4, q5]) rfl ?_
          rw [HNO.out.1, HNO.out.2]
          have hgw : w7.heap.size < wr.heap.size := (Array.getElem?_eq_some_iff.1 HO.out.blk).1
          have hR16 := Kd.R_step HAL7.out (fun k _ hlt => HF.out.2.2.1.block k hlt (by omega))
          have hA := Kd.R_set (Kd.R_set hR16 HF.out.2.2.2.1 (int_ty _ (by decide)) 0 (.slice Al all.length cl)) HF.out.2.2.2.2 (int_ty _ (by decide)) 1 (.slice A15 (Pl.sortU R).length c15)
          have hB := Kd.N_far (Kd.N_far (Kd.N_far HF.out.1 (p := ⟨w7.heap.size, 1, none⟩) (fun k hk => by have : wr.heap.size ≤ k := hk; show k ≠ w7.heap.size; omega) (.slice A15 (Pl.sortU R).length c15)) (p := ⟨w.heap.size + 1 + 1, 0, none⟩) (fun k hk => by have : wr.heap.size ≤ k := hk; show k ≠ w.heap.size + 1 + 1; omega) (.slice Al all.length cl)) (p := ⟨w.heap.size + 1 + 1, 1, none⟩) (fun k hk => by have : wr.heap.size ≤ k := hk; show k ≠ w.heap.size + 1 + 1; omega) (.slice A15 (Pl.sortU R).length c15)
          refine ⟨_, rfl, ⟨_, _, rfl, Kd.R_mono (Kd.R_bound hA) (fun k hk => hk.2.1), Kd.N_mono (Kd.N_lower hB HBW.out.size) (fun k hk => Nat.le_trans HBW.out.size hk)⟩, ?_⟩
          exact (((below_then HBW.out HBW.out.size HF.out.2.1).setCell (p := ⟨w7.heap.size, 1, none⟩) (show w.heap.size ≤ w7.heap.size by omega) _).setCell (p := ⟨w.heap.size + 1 + 1, 0, none⟩) (show w.heap.size ≤ w.heap.size + 1 + 1 by omega) _).setCell (p := ⟨w.heap.size + 1 + 1, 1, none⟩) (show w.heap.size ≤ w.heap.size + 1 + 1 by omega) _
end Go.Proofs.YtlmkgghpaaadhaaGreatDoor.G

/- The package join at right relations: Join, Semijoin, Agree, All; literals. -/
set_option linter.unusedVariables false
set_option linter.unusedSimpArgs false
namespace Go.Proofs.YtlmkgghpaaadhaaGreatDoor.G
open Go.RowKit Go.Proofs.YtlmkgghpaaadhaaGreatDoorW.PrintWords Go.Proofs.YtlmkgghpaaadhaaGreatDoorW.PrintLast Go.Proofs.YtlmkgghpaaadhaaGreatDoorW.PrintMore Go.Proofs.YtlmkgghpaaadhaaGreatDoor.PRefs

/-- A right relation of some size. -/
structure Rt (sc : List Int) (L : List (List Int)) : Prop where
  r : RightP sc L
  s : sc.length ≤ 10000000
  l : L.length ≤ 20000
  i : InR L
theorem Rt.x {sc : List Int} {L : List (List Int)} (h : Rt sc L) : ∀ x ∈ L, x.length ≤ 100000000 := fun x hx => by rw [h.r.2.1 x hx]; have := h.s; omega
def joinAt (sa : List Int) (La : List (List Int)) (sb : List Int) (Lb : List (List Int)) (most : Int) : List Int × List (List Int) := if ((joinRows sa La sb Lb).length : Int) ≤ most then (uni sa sb, joinRows sa La sb Lb) else ([], [])
def joinEr (sa : List Int) (La : List (List Int)) (sb : List Int) (Lb : List (List Int)) (most : Int) : Int := if ((joinRows sa La sb Lb).length : Int) ≤ most then 0 else 9

section
variable {w : World} {A : Option Addr} {c : Nat} {sc : List Int} {A' : Option Addr} {c' : Nat} {L : List (List Int)} {B : Option Addr} {d : Nat} {sd : List Int} {B' : Option Addr} {d' : Nat} {M : List (List Int)}
end

/-! literals -/
theorem lit_ints (w : World) (xs : List Int) (hm : xs.length ≤ 1000000000) : Kd.C KI (w.alloc (.cells (xs.map (Value.int .i64)).toArray 3)) (some ⟨w.heap.size, 0, none⟩) xs.length xs := by
  obtain ⟨A, c, e, _, h⟩ := Kd.R_reads (lit_row w xs 0 (Nat.zero_le _) hm)
  injection e with e
  rw [e]; exact h
theorem lit_rows1 {w : World} {A : Option Addr} {c : Nat} {xs : List Int} (h : Kd.C KI w A xs.length xs) (hc : xs.length ≤ c) : Kd.C KL (w.alloc (.cells #[.slice A xs.length c] 22)) (some ⟨w.heap.size, 0, none⟩) 1 [xs] := by
  refine ⟨rfl, by omega, fun _ => ⟨_, rfl, fun j p hj => ?_⟩⟩
  match j, hj with
  | 0, hj =>
    obtain rfl : xs = p := by simpa using hj
    refine ⟨[.slice A xs.length c], rfl, ⟨A, c, rfl, hc, Kd.C_below h (below_alloc (Below.refl _ _) _)⟩, fun i u hu => ?_⟩
    match i, hu with
    | 0, hu =>
      obtain rfl : Value.slice A xs.length c = u := by simpa using hu
      show World.cell? _ (Addr.add ⟨w.heap.size, 0, none⟩ 0) = _
      rw [show Addr.add ⟨w.heap.size, 0, none⟩ 0 = ⟨w.heap.size, 0, none⟩ by simp [Addr.add], cell_of_row _ w.heap.size _ _ _ _ (heap_alloc_new w _)]
      rfl
theorem lit_rows2 {w : World} {A B : Option Addr} {c d : Nat} {xs ys : List Int} (h : Kd.C KI w A xs.length xs) (hc : xs.length ≤ c) (h' : Kd.C KI w B ys.length ys) (hd : ys.length ≤ d) :
    Kd.C KL (w.alloc (.cells #[.slice A xs.length c, .slice B ys.length d] 22)) (some ⟨w.heap.size, 0, none⟩) 2 [xs, ys] := by
  refine ⟨rfl, by omega, fun _ => ⟨_, rfl, fun j p hj => ?_⟩⟩
  match j, hj with
  | 0, hj =>
    obtain rfl : xs = p := by simpa using hj
    refine ⟨[.slice A xs.length c], rfl, ⟨A, c, rfl, hc, Kd.C_below h (below_alloc (Below.refl _ _) _)⟩, fun i u hu => ?_⟩
    match i, hu with
    | 0, hu =>
      obtain rfl : Value.slice A xs.length c = u := by simpa using hu
      show World.cell? _ (Addr.add ⟨w.heap.size, 0, none⟩ 0) = _
      rw [show Addr.add ⟨w.heap.size, 0, none⟩ 0 = ⟨w.heap.size, 0, none⟩ by simp [Addr.add], cell_of_row _ w.heap.size _ _ _ _ (heap_alloc_new w _)]
      rfl
  | 1, hj =>
    obtain rfl : ys = p := by simpa using hj
    refine ⟨[.slice B ys.length d], rfl, ⟨B, d, rfl, hd, Kd.C_below h' (below_alloc (Below.refl _ _) _)⟩, fun i u hu => ?_⟩
    match i, hu with
    | 0, hu =>
      obtain rfl : Value.slice B ys.length d = u := by simpa using hu
      show World.cell? _ (Addr.add ⟨w.heap.size, 0, none⟩ 1) = _
      rw [show Addr.add ⟨w.heap.size, 0, none⟩ 1 = ⟨w.heap.size, 1, none⟩ by simp [Addr.add], cell_of_row _ w.heap.size _ _ _ _ (heap_alloc_new w _)]
      rfl
end Go.Proofs.YtlmkgghpaaadhaaGreatDoor.G

/- join.Join, its answer a relation of the call's own. -/
set_option linter.unusedVariables false
set_option linter.unusedSimpArgs false
namespace Go.Proofs.YtlmkgghpaaadhaaGreatDoor.G
open Go.RowKit Go.Proofs.YtlmkgghpaaadhaaGreatDoorW.PrintWords Go.Proofs.YtlmkgghpaaadhaaGreatDoorW.PrintLast Go.Proofs.YtlmkgghpaaadhaaGreatDoorW.PrintMore

theorem RelM.of {w : World} {base : Nat} {v : Value} {r : List Int × List (List Int)} (h : RelM w base v r) : ∃ A c A' c', v = .agg #[.slice A r.1.length c, .slice A' r.2.length c'] ∧ RelM w base (.agg #[.slice A r.1.length c, .slice A' r.2.length c']) r := by
  obtain ⟨A, c, A', c', rfl, _⟩ := h.rd
  exact ⟨A, c, A', c', rfl, h⟩
theorem RelM.rd' {w : World} {base : Nat} {A : Option Addr} {c : Nat} {A' : Option Addr} {c' : Nat} {n n' : Nat} {r : List Int × List (List Int)} (h : RelM w base (.agg #[.slice A n c, .slice A' n' c']) r) : RelRd w A c r.1 A' c' r.2 := by
  obtain ⟨B, d, B', d', e, h⟩ := h.rd
  injection e with e
  injection e with e
  injection e with e1 e2
  injection e2 with e2 _
  injection e1 with a1 a2 a3
  injection e2 with b1 b2 b3
  rw [a1, a3, b1, b3]; exact h
/-- All joined, one behind the other. -/
theorem uni_len (sa sb : List Int) : (uni sa sb).length ≤ sa.length + sb.length := merge_len true true true sa sb
theorem rt_unit : Rt [] [[]] := ⟨right_unit, by simp, by simp, fun t ht x hx => by rw [List.mem_singleton.1 ht] at hx; cases hx⟩
theorem blk2_two {W : World} {g t : Nat} {a b : Value} (h : W.heap[g]? = some (.cells #[a, b] t (0, 0))) (u v : Value) : ((W.setCell ⟨g, 0, none⟩ u).setCell ⟨g, 1, none⟩ v).heap[g]? = some (.cells #[u, v] t (0, 0)) := blk2_s1 (blk2_s0 h u) v

section
variable {w : World} {A : Option Addr} {c : Nat} {sc : List Int} {A' : Option Addr} {c' : Nat} {L : List (List Int)} {B : Option Addr} {d : Nat} {sd : List Int} {B' : Option Addr} {d' : Nat} {M : List (List Int)}
theorem join_m (h : RelRd w A c sc A' c' L) (ht : Rt sc L) (h' : RelRd w B d sd B' d' M) (ht' : Rt sd M) (most : Int) (htab : Tab w) {r : List Int × List (List Int)} {n : Int} (hr : joinAt sc L sd M most = r) (hn : joinEr sc L sd M most = n) :
    Calls Tryz.prog 66 #[.agg #[.slice A sc.length c, .slice A' L.length c'], .agg #[.slice B sd.length d, .slice B' M.length d'], .int .i64 most] w fun e w' => ∃ A2 c2 A3 c3, e = .returned (.tuple #[.agg #[.slice A2 r.1.length c2, .slice A3 r.2.length c3], .int .i64 n]) ∧ RelM w' w.heap.size (.agg #[.slice A2 r.1.length c2, .slice A3 r.2.length c3]) r ∧ Below w.heap.size w w' := by
  have h1 := ht.s
  have h2 := ht'.s
  have h3 := ht.l
  have h4 := ht'.l
  refine (join_any A c sc A' c' L B d sd B' d' M most w h.row h.cap h.rows h'.row h'.cap h'.rows (by omega) (by omega) (by omega) (by omega) ht.x ht'.x ht.i ht'.i htab).mono ?_
  rintro e w' ⟨v, rfl, hv, hb⟩
  have e1 : joinTo sc L sd M most = r := by rw [← hr, joinTo, joinAt, raw_len ht.r ht'.r, raw_sort ht.r ht'.r]
  have e2 : joinErr sc L sd M most = n := by rw [← hn, joinErr, joinEr, raw_len ht.r ht'.r]
  rw [e1] at hv
  rw [e2]
  obtain ⟨A, c, A', c', rfl, h⟩ := hv.of
  exact ⟨A, c, A', c', rfl, h, hb⟩
end
end Go.Proofs.YtlmkgghpaaadhaaGreatDoor.G
