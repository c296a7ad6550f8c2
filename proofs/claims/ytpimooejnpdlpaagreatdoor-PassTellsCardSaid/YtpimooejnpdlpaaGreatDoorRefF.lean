/- The document's Semijoin, walked. -/
import Derived.Test.YtpimooejnpdlpaaGreatDoorMR
import Derived.Test.YtpimooejnpdlpaaGreatDoorSemi
set_option linter.unusedVariables false
set_option linter.unusedSimpArgs false
namespace Go.Proofs.YtpimooejnpdlpaaGreatDoor.G
open Go.RowKit Go.Proofs.YtpimooejnpdlpaaGreatDoorW.PrintWords Go.Proofs.YtpimooejnpdlpaaGreatDoorW.PrintLast Go.Proofs.YtpimooejnpdlpaaGreatDoorW.PrintMore

theorem reffit_q {A0 A1 A2 A3 : Option Addr} {c0 c1 c2 c3 : Nat} {s t u v : List Int} {w : World} (n : Nat) (hr0 : Kd.C KI w A0 s.length s) (hr1 : Kd.C KI w A1 t.length t) (hr2 : Kd.C KI w A2 u.length u) (hr3 : Kd.C KI w A3 v.length v)
    (hs : s.Nodup) (ht : t.length = s.length) (hv : v.length = u.length) (b : Bool) (hb : fits s u t v = b) :
    Calls Tryz.prog 42 #[.slice A0 s.length c0, .slice A1 t.length c1, .slice A2 u.length c2, .slice A3 v.length c3] (w.drewN n) fun e w' => e = .returned (.bool b) ∧ ∃ m, w' = (w.drewN n).drewN m :=
  (reffit_any (Kd.C_drewN hr0 n) (Kd.C_drewN hr1 n) (Kd.C_drewN hr2 n) (Kd.C_drewN hr3 n) hs ht hv b hb).mono fun _ _ h => ⟨h.1, h.2.out⟩
theorem any_take_succ (p : List Int → Bool) (L : List (List Int)) (k : Nat) (h : k < L.length) : (L.take (k + 1)).any p = ((L.take k).any p || p (L.getD k [])) := by
  rw [List.take_succ_eq_append_getElem h, List.any_append, List.getD_eq_getElem?_getD, List.getElem?_eq_getElem h]; simp

section
variable {w : World} {A : Option Addr} {c : Nat} {sc : List Int} {A' : Option Addr} {c' : Nat} {L : List (List Int)} {B : Option Addr} {d : Nat} {sd : List Int} {B' : Option Addr} {d' : Nat} {M : List (List Int)}
set_option maxHeartbeats 8000000 in
set_option maxRecDepth 100000 in
theorem refsemi_m (h : RelRd w A c sc A' c' L) (hs : sc.Nodup) (hm : sc.length ≤ 1000000000) (hm1 : L.length ≤ 1000000000) (hL : ∀ x ∈ L, x.length = sc.length) (h' : RelRd w B d sd B' d' M) (hM : ∀ x ∈ M, x.length = sd.length) {R : List (List Int)} (hR : semiRows sc L sd M = R) :
    Calls Tryz.prog 26 #[.agg #[.slice A sc.length c, .slice A' L.length c'], .agg #[.slice B sd.length d, .slice B' M.length d']] w fun e w' => ∃ A2 c2 A3 c3, e = .returned (.agg #[.slice A2 sc.length c2, .slice A3 R.length c3]) ∧ RelM w' w.heap.size (.agg #[.slice A2 sc.length c2, .slice A3 R.length c3]) (sc, R) ∧ Below w.heap.size w w' := by
  have HR := Aside0.mk (And.intro h (And.intro h' (And.intro hs (And.intro hL hM))))
  have HRR := Aside0.mk hR
  have hmm : M.length ≤ 9223372036854775807 := h'.rows.2.1
  obtain ⟨W0, hW0⟩ : ∃ W0, ((w.alloc (.cells #[.slice A sc.length c, .slice A' L.length c'] 39)).alloc (.cells #[.slice B sd.length d, .slice B' M.length d'] 39)).alloc (.cells #[.slice none 0 0, .slice none 0 0] 39) = W0 := ⟨_, rfl⟩
  have hI0 : UnInv w (.slice A sc.length c) (.slice A' L.length c') (.slice B sd.length d) (.slice B' M.length d') W0 := by rw [← hW0]; exact UnInv.start _ _ _ _ _ _ _
  have HI0 := Aside0.mk hI0
  have hlo : w.heap.size + 1 + 1 < W0.heap.size := by
    obtain ⟨x, y, hC⟩ := hI0.C
    exact (Array.getElem?_eq_some_iff.1 hC).1
  have HLO := Aside0.mk hlo
  have q0 := blk2_c0 hI0.A
  clear h h' hs hL hM hR hI0 hlo
  go_enter Tryz.func26, Tryz.ntmps26
  go_wp2_with (go_at_call 29; refine (refcopy_any (Kd.C_below HR.out.1.row HI0.out.bel) (by omega)).mono ?_; rintro e w4 ⟨v4, rfl, hv4, hb4⟩; obtain ⟨A7, c7, rfl, _, _⟩ := Kd.R_reads hv4; have HJ4 := Aside0.mk (HI0.out.step hb4); have HV4 := Aside0.mk (And.intro hv4 hb4); clear hv4 hb4)
  have HO := Aside0.mk (RowsOut.new (w4 := w4) (.slice A7 sc.length c7))
  have hlw : w.heap.size + 1 + 1 < w4.heap.size := Nat.lt_of_lt_of_le HLO.out HV4.out.2.size
  have HR4 := Aside0.mk (show Kd.R KI 3 w4 W0.heap.size (fun k => True ∧ k ≠ w4.heap.size) (.slice A7 sc.length c7) sc from Kd.R_mono (Kd.R_bound HV4.out.1) (fun k hk => ⟨trivial, by have := hk.2.2.1; omega⟩))
  have HUP := Aside0.mk (show w.heap.size ≤ W0.heap.size ∧ W0.heap.size ≤ w4.heap.size from ⟨by have := HLO.out; omega, HV4.out.2.size⟩)
  clear HV4 hW0 q0
  generalize w4.alloc (.cells #[.slice A7 sc.length c7, .slice none 0 0] 39) = W5 at HO ⊢
  obtain ⟨g, hg⟩ : ∃ g, w4.heap.size = g := ⟨_, rfl⟩
  rw [hg] at HO HR4 hlw ⊢
  have HG := Aside0.mk hg
  clear hg
  obtain ⟨K, hK⟩ : ∃ K : List Int → Bool, (fun t => M.any (fits sc sd t)) = K := ⟨_, rfl⟩
  have hsr : L.filter K = R := by rw [← HRR.out, ← hK]; rfl
  have HKK := Aside0.mk (And.intro hK hsr)
  clear hK hsr
  go_loopw [6] (fun i W => ∃ (k : Nat) (s1 : Value), k ≤ L.length ∧ i = .int .i64 k ∧ Aside0 (RowsOut w4 g (.slice A7 sc.length c7) s1 ((L.take k).filter K) W)) (fun i _ => L.length - (intOf i).toNat)
  case atStart => exact ⟨0, _, Nat.zero_le _, rfl, ⟨by simpa using HO.out⟩⟩
  case round =>
    clear HO
    obtain ⟨k, s1, hk, rfl, HO⟩ := hrel
    have HUN := Aside0.mk (HJ4.out.but HO.out.but hlw)
    obtain ⟨q0, q1, q2, q3, _⟩ := HUN.out.all
    by_cases hlt : k < L.length
    · obtain ⟨ad, Bx, cx, rfl, hx, hlx, hcx⟩ := at_row HR.out.1.rows HUN.out.bel k hlt
      have hkl : (k : Int) < (L.length : Int) := by omega
      have hxl : (L.getD k []).length = sc.length := HR.out.2.2.2.1 _ (by rw [getD_get _ _ hlt]; exact List.getElem_mem hlt)
      have hst := filter_take_in K L k hlt
      have hso := filter_take_out K L k hlt
      obtain ⟨x, hxe⟩ : ∃ x, L.getD k [] = x := ⟨_, rfl⟩
      rw [hxe] at hx hlx hcx hxl hst hso
      have HX := Aside0.mk (And.intro hcx hxl)
      have hxl2 : x.length ≤ 1000000000 := by omega
      have HST := Aside0.mk (And.intro hst (And.intro hso hxe))
      have HKX := Aside0.mk (show M.any (fits sc sd x) = K x from by rw [← HKK.out.1])
      clear hcx hxl hlx hst hso hxe
      go_wp2
      rename World => wo
      go_loopw [7, 8] (fun b j W => ∃ (q : Nat) (v : Bool), q ≤ M.length ∧ b = .bool v ∧ j = .int .i64 q ∧ Aside0 ((M.take q).any (fits sc sd x) = v) ∧ Aside0 (Drawn0 wo W)) (fun _ j _ => M.length - (intOf j).toNat)
      case atStart => exact ⟨0, false, Nat.zero_le _, rfl, rfl, ⟨rfl⟩, ⟨Drawn0.refl _⟩⟩
      case round =>
        obtain ⟨q, v, hq, rfl, rfl, HA, HD⟩ := hrel
        have hdb := HD.out.below
        replace q0 := (hdb.cell (World.block_lt_of_cell? wo _ q0)).trans q0
        replace q1 := (hdb.cell (World.block_lt_of_cell? wo _ q1)).trans q1
        replace q2 := (hdb.cell (World.block_lt_of_cell? wo _ q2)).trans q2
        replace q3 := (hdb.cell (World.block_lt_of_cell? wo _ q3)).trans q3
        replace hx := (hdb.cell (World.block_lt_of_cell? wo _ hx)).trans hx
        have HU2 := Aside0.mk (HUN.out.step hdb)
        have HX2 := Aside0.mk (And.intro (Kd.C_below HX.out.1 hdb) HX.out.2)
        have HO2 := Aside0.mk (HO.out.step hdb)
        clear hdb
        by_cases hqt : q < M.length
        · have hql : (q : Int) < (M.length : Int) := by omega
          have HAT := Aside0.mk (any_take_succ (fits sc sd x) M q hqt)
          cases v with
          | true =>
            go_wp2
            go_quiet (fail)
            go_wp2
            go_roundw
            case rel => exact ⟨q + 1, true, by omega, rfl, by go_num, ⟨by rw [HAT.out, HA.out]; rfl⟩, ⟨HD.out.step _⟩⟩
            case measure => simp [intOf]; omega
          | false =>
            obtain ⟨ad2, By, cy, rfl, hy, hly, hcy⟩ := at_row HR.out.2.1.rows HU2.out.bel q hqt
            have hyl : (M.getD q []).length = sd.length := HR.out.2.2.2.2 _ (by rw [getD_get _ _ hqt]; exact List.getElem_mem hqt)
            obtain ⟨y, hye⟩ : ∃ y, M.getD q [] = y := ⟨_, rfl⟩
            rw [hye] at hy hly hcy hyl HAT
            obtain ⟨f, hf⟩ : ∃ f, fits sc sd x y = f := ⟨_, rfl⟩
            rw [hf] at HAT
            have HF := Aside0.mk hf
            have HY := Aside0.mk (And.intro hcy hyl)
            clear hcy hyl hly hye hf
            go_wp2
            go_quiet ((go_at_call 42; exact Calls.quiet_of (reffit_q _ (Kd.C_below HR.out.1.row HU2.out.bel) HX2.out.1 (Kd.C_below HR.out.2.1.row HU2.out.bel) HY.out.1 HR.out.2.2.1 HX2.out.2 HY.out.2 f HF.out)))
            go_wp2
            go_roundw
            case rel => exact ⟨q + 1, f, by omega, rfl, by go_num, ⟨by rw [HAT.out, HA.out]; rfl⟩, ⟨HD.out.step _⟩⟩
            case measure => simp [intOf]; omega
        · rw [List.take_of_length_le (by omega), HKX.out] at HA
          cases v with
          | false =>
            go_wp2
            go_roundw
            case rel => exact ⟨k + 1, s1, by omega, by go_num, ⟨by rw [HST.out.2.1 HA.out]; exact HO2.out⟩⟩
            case measure => simp [intOf]; omega
          | true =>
            have qa := blk2_c1 HO2.out.blk
            have hgl7 := (Array.getElem?_eq_some_iff.1 HO2.out.blk).1
            have HW2 := Aside0.mk HO2.out.but.size
            have HOK := Aside0.mk (show ∀ k, wr.heap.size ≤ k → (w4.heap.size ≤ k ∧ k ≠ g) ∧ some k ≠ s1.ownBlock from fun k hk => ⟨⟨Nat.le_trans HW2.out hk, by omega⟩, fun e => by have := Kd.N_lt HO2.out.rows k e.symm; omega⟩)
            have HFL := Aside0.mk (show ((L.take k).filter K).length ≤ 1000000000 from Nat.le_trans (List.length_filter_le _ _) (by simp; omega))
            obtain ⟨FL, hFL⟩ : ∃ FL, (L.take k).filter K = FL := ⟨_, rfl⟩
            rw [hFL] at HO2 HFL
            have HFE := Aside0.mk hFL
            clear hFL
            go_wp2_with fail
            go_region_law (first
              | (go_simp; go_at_call 29; refine (refcopy_any (Kd.C_below HX2.out.1 (below_drew (Below.refl _ _))) (by omega)).mono ?_; rintro e w8 ⟨v8, rfl, hv8, hb8⟩; obtain ⟨A9, c9, rfl, _, _⟩ := Kd.R_reads hv8; have HV8 := Aside0.mk (And.intro hv8 hb8); have hbk8 := (hb8.block g hgl7).trans HO2.out.blk; have qb := blk2_c1 hbk8; have qc := blk2_c1 ((Below.heap_alloc w8 (.cells #[.slice A9 x.length c9] 25) g (Array.getElem?_eq_some_iff.1 hbk8).1).trans hbk8); have HBK8 := Aside0.mk hbk8; have HB8 := Aside0.mk ((below_drew (Below.refl wr.heap.size wr)).trans hb8); clear hv8 hb8 hbk8) | ((refine Kd.N_append_step KL (w0 := w8) w4.heap.size (by rfl) (.tmp 47) (.tmp 54) 24 25 (.slice none 0 0) 24 rfl Tryz.underlying24 infoInts rfl (by decide) (by omega) s1 FL x [.slice A9 x.length c9] (fun k => w4.heap.size ≤ k ∧ k ≠ g) (fun k => wr.heap.size ≤ k) rfl rfl (Kd.FK_of_M (base := wr.drew.heap.size) ⟨_, rfl, Kd.R_mono (Kd.R_bound HV8.out.1) (fun k hk => hk.2.1)⟩) (fun k hk => HOK.out k hk) (fun k hk => (HOK.out k (Nat.le_trans HB8.out.size hk)).1) (Kd.N_below HO2.out.rows HB8.out) (Below.refl _ _) (Nat.le_trans HW2.out HB8.out.size) (by have := HFL.out; omega) ?_); intro v9 w9 hN hB hgr hat; obtain ⟨A10, c10, rfl⟩ := Kd.N_slice hN; have hbk9 := HO2.out.at1 HB8.out hgr; have qd := blk2_c1 hbk9; have qe := blk_fr (i := 1) hbk9; have HP9 := Aside0.mk (HO2.out.push HB8.out hgr hN); clear hN hB hgr hat hbk9))
            all_goals
              go_wp2_with fail
              go_roundw
              case rel => exact ⟨k + 1, _, by omega, by go_num, ⟨by rw [HST.out.1 HA.out, HFE.out]; have h := HP9.out; rw [List.length_append] at h; exact h⟩⟩
              case measure => simp [intOf]; omega
    · rw [List.take_of_length_le (by omega), HKK.out.2] at HO
      obtain ⟨A10, c10, rfl⟩ := Kd.N_slice HO.out.rows
      obtain ⟨x0, y0, hC⟩ := HUN.out.C
      have qa := blk2_c0 HO.out.blk
      have qb := blk2_c1 HO.out.blk
      have p0 := blk2_c0 hC
      have p1 := blk_fr (i := 0) hC
      have hs0 := blk2_s0 hC (.slice A7 sc.length c7)
      have p2 := blk2_c1 hs0
      have p3 := blk_fr (i := 1) hs0
      have hs1 := blk2_s1 hs0 (.slice A10 R.length c10)
      have q4 := blk2_c0 hs1
      have q5 := blk2_c1 hs1
      have HS0 := Aside0.mk (And.intro hC hs0)
      have HR5 := Aside0.mk (HO.out.but.R HR4.out)
      clear hs0 hs1 hC
      go_wp2
      refine bodyPost_ret (v := .agg #[.slice A7 sc.length c7, .slice A10 R.length c10]) (by simp [results, Tryz.results26, go_sem, q4, q5]) rfl ?_
      have hA := Kd.R_set (Kd.R_set HR5.out HS0.out.1 (int_ty _ (by decide)) 0 (.slice A7 sc.length c7)) HS0.out.2 (int_ty _ (by decide)) 1 (.slice A10 R.length c10)
      have hB := Kd.N_far (Kd.N_far HO.out.rows (p := ⟨w.heap.size + 1 + 1, 0, none⟩) (fun k hk => by have := hk.1; have := HLO.out; have := HUP.out.2; show k ≠ w.heap.size + 1 + 1; omega) (.slice A7 sc.length c7)) (p := ⟨w.heap.size + 1 + 1, 1, none⟩) (fun k hk => by have := hk.1; have := HLO.out; have := HUP.out.2; show k ≠ w.heap.size + 1 + 1; omega) (.slice A10 R.length c10)
      refine ⟨_, _, _, _, rfl, ⟨_, _, rfl, Kd.R_mono (Kd.R_bound (Kd.R_lower hA HUP.out.1)) (fun k hk => hk.2.1), Kd.N_mono (ok := fun k => w4.heap.size ≤ k ∧ k ≠ g) (ok' := fun k => w.heap.size ≤ k) (Kd.N_lower hB (Nat.le_trans HUP.out.1 HUP.out.2)) (fun k hk => Nat.le_trans (Nat.le_trans HUP.out.1 HUP.out.2) hk.1)⟩, ?_⟩
      exact (HUN.out.bel.setCell (p := ⟨w.heap.size + 1 + 1, 0, none⟩) (show w.heap.size ≤ w.heap.size + 1 + 1 by omega) _).setCell (p := ⟨w.heap.size + 1 + 1, 1, none⟩) (show w.heap.size ≤ w.heap.size + 1 + 1 by omega) _
end
end Go.Proofs.YtpimooejnpdlpaaGreatDoor.G
