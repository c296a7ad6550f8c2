/- Several texts of this claim in one. -/
import Derived.Test.YtlmkgghpaaadhaaGreatDoorNB
/- The document's sums of weights, walked. -/
set_option linter.unusedVariables false
set_option linter.unusedSimpArgs false
namespace Go.Proofs.YtlmkgghpaaadhaaGreatDoor.G
open Go.RowKit Go.Proofs.YtlmkgghpaaadhaaGreatDoorW.PrintWords Go.Proofs.YtlmkgghpaaadhaaGreatDoorW.PrintLast Go.Proofs.YtlmkgghpaaadhaaGreatDoorW.PrintMore Go.Proofs.YtlmkgghpaaadhaaGreatDoor.PRefs

theorem size4_same (n : Int) (h : n.natAbs ≤ 4611686018427387904) (w : World) : Calls Tryz.prog 49 #[.int .i64 n] w fun e w' => e = .returned (.int .i64 (n.natAbs : Int)) ∧ w = w' := by
  by_cases hn : n < 0
  · obtain ⟨y, hy⟩ : ∃ y, (n.natAbs : Int) = y := ⟨_, rfl⟩
    have he : IntKind.i64.wrap (-n) = y := by rw [Go.IntWalk.i64_in _ (by omega)]; omega
    have he2 : wrap64 (-n) = y := by rw [Go.IntWalk.wrap64_in _ (by omega)]; omega
    rw [hy]
    clear hy
    go_enter Tryz.func49, Tryz.ntmps49
    go_wp2
    go_ret
    exact ⟨by first | rfl | rw [he2], rfl⟩
  · have he : (n.natAbs : Int) = n := by omega
    rw [he]
    clear he
    go_enter Tryz.func49, Tryz.ntmps49
    go_wp2
    go_ret
    exact ⟨rfl, rfl⟩
theorem size4_q (n : Int) (h : n.natAbs ≤ 4611686018427387904) (w : World) (k : Nat) : Calls Tryz.prog 49 #[.int .i64 n] (w.drewN k) fun e w' => e = .returned (.int .i64 (n.natAbs : Int)) ∧ ∃ m, w' = (w.drewN k).drewN m :=
  (size4_same n h _).mono fun _ _ hh => ⟨hh.1, by rw [← hh.2]; exact (Drawn0.refl _).out⟩
theorem fit_q {A0 A1 A2 A3 : Option Addr} {c0 c1 c2 c3 : Nat} {s t u v : List Int} {w : World} (n : Nat) {k0 k1 k2 k3 : Nat} (hr0 : Kd.C KI w A0 s.length s) (hr1 : Kd.C KI w A1 t.length t) (hr2 : Kd.C KI w A2 u.length u) (hr3 : Kd.C KI w A3 v.length v)
    (hs : s.Nodup) (ht : t.length = s.length) (hv : v.length = u.length) (h0 : s.length = k0) (h1 : t.length = k1) (h2 : u.length = k2) (h3 : v.length = k3) (b : Bool) (hb : fits s u t v = b) :
    Calls Tryz.prog 48 #[.slice A0 k0 c0, .slice A1 k1 c1, .slice A2 k2 c2, .slice A3 k3 c3] (w.drewN n) fun e w' => e = .returned (.bool b) ∧ ∃ m, w' = (w.drewN n).drewN m := by
  subst h0 h1 h2 h3
  exact (reffit_any (Kd.C_drewN hr0 n) (Kd.C_drewN hr1 n) (Kd.C_drewN hr2 n) (Kd.C_drewN hr3 n) hs ht hv b hb).mono fun _ _ h => ⟨h.1, h.2.out⟩
/-- Sums of weights: two boxes of two numbers. -/
structure SumSt (wo W : World) (s l : Int) : Prop where
  bel : Below wo.heap.size wo W
  wb : W.heap[wo.heap.size]? = some (.cells #[.int .i64 s, .int .i64 0] 68 (0, 0))
  lb : W.heap[wo.heap.size + 1]? = some (.cells #[.int .i64 l, .int .i64 4611686018427387904] 68 (0, 0))
theorem SumSt.new (wo : World) : SumSt wo ((wo.alloc (.cells #[.int .i64 0, .int .i64 0] 68)).alloc (.cells #[.int .i64 4611686018427387904, .int .i64 4611686018427387904] 68)) 0 4611686018427387904 :=
  ⟨below_alloc (below_alloc (Below.refl _ _) _) _, blk_two1 _ _ _, blk_two2 _ _ _⟩
theorem SumSt.step {wo W W1 : World} {s l : Int} (h : SumSt wo W s l) (hb : Below W.heap.size W W1) : SumSt wo W1 s l :=
  ⟨below_then h.bel h.bel.size hb, (hb.block _ (Array.getElem?_eq_some_iff.1 h.wb).1).trans h.wb, (hb.block _ (Array.getElem?_eq_some_iff.1 h.lb).1).trans h.lb⟩
theorem SumSt.putL {wo W : World} {s l : Int} (h : SumSt wo W s l) (y : Int) : SumSt wo (W.setCell ⟨wo.heap.size + 1, 0, none⟩ (.int .i64 y)) s y :=
  ⟨h.bel.setCell (p := ⟨wo.heap.size + 1, 0, none⟩) (Nat.le_succ _) _, (Below.heap_setCell _ _ _ _ (by simp)).trans h.wb, blk2_s0 h.lb _⟩
theorem SumSt.putM {wo W : World} {s l : Int} (h : SumSt wo W s l) : SumSt wo (W.setCell ⟨wo.heap.size + 1, 1, none⟩ (.int .i64 4611686018427387904)) s l :=
  ⟨h.bel.setCell (p := ⟨wo.heap.size + 1, 1, none⟩) (Nat.le_succ _) _, (Below.heap_setCell _ _ _ _ (by simp)).trans h.wb, blk2_s1 h.lb _⟩
theorem SumSt.putS {wo W : World} {s l : Int} (h : SumSt wo W s l) (y : Int) : SumSt wo (W.setCell ⟨wo.heap.size, 0, none⟩ (.int .i64 y)) y l :=
  ⟨h.bel.setCell (p := ⟨wo.heap.size, 0, none⟩) (Nat.le_refl _) _, blk2_s0 h.wb _, (Below.heap_setCell _ _ _ _ (by simp)).trans h.lb⟩
theorem SumSt.putZ {wo W : World} {s l : Int} (h : SumSt wo W s l) : SumSt wo (W.setCell ⟨wo.heap.size, 1, none⟩ (.int .i64 0)) s l :=
  ⟨h.bel.setCell (p := ⟨wo.heap.size, 1, none⟩) (Nat.le_refl _) _, blk2_s1 h.wb _, (Below.heap_setCell _ _ _ _ (by simp)).trans h.lb⟩
/-- The document's weights of plain numbers. -/
def dW (l : List Int) : List WtS := l.map fun x => ⟨x, 0⟩
theorem dW_len (l : List Int) : (dW l).length = l.length := by simp [dW]
theorem dW_snoc (l : List Int) (x : Int) : dW (l ++ [x]) = dW l ++ [⟨x, 0⟩] := by simp [dW]
theorem rd_dW {l : List Int} {k : Nat} (h : k < l.length) : rd_T68 (dW l) (k : Int) = ⟨rd l (k : Int), 0⟩ := by
  unfold rd_T68
  rw [Int.toNat_natCast, List.getD_eq_getElem?_getD, List.getElem?_eq_getElem (by rw [dW_len]; exact h), rd_get _ _ h]
  simp [dW]
theorem refW_dW (most : Int) (xA : List Int) (n : Nat) : refW most xA n = dW ((List.range n).map (refV most xA)) := by simp [refW, dW, List.map_map]
/-- A row of the projection fits a row just if it is that row's cut. -/
theorem fits_cut {sc on : List Int} (hs : Rise sc) (ho : Rise on) (hsub : ∀ v ∈ on, v ∈ sc) {x t : List Int} (hx : x.length = on.length) (ht : t.length = sc.length) : fits on sc x t = true ↔ pick t (on.map (idx sc)) = x := by
  rw [pick_look sc t on ht hsub]
  constructor
  · intro h
    have h2 := of_decide_eq_true h
    rw [← look_self ho.nodup hx]
    exact List.map_congr_left fun v hv => (h2 v hv (hsub v hv)).symm
  · intro h
    refine decide_eq_true fun v hv hv' => ?_
    rw [← h]
    exact look_map hv _
theorem cut_pos {R : List (List Int)} (hR : Pl.Up R) {k : Nat} (hk : k < R.length) {x : List Int} : (x ∈ R ∧ pos R x = k) ↔ x = R.getD k [] := by
  rw [getD_get _ _ hk]
  constructor
  · rintro ⟨hm, hp⟩
    obtain ⟨i, hi, rfl⟩ := List.getElem_of_mem hm
    have := pos_self hR i hi
    have e : i = k := by omega
    subst e; rfl
  · rintro rfl
    exact ⟨List.getElem_mem hk, pos_self hR k hk⟩
theorem collect_in {sc : List Int} {L : List (List Int)} {ws on : List Int} {R : List (List Int)} (hR : Pl.Up R) {j k : Nat} (hj : j < L.length) (hw : ws.length = L.length) (hk : k < R.length) (h : pick (L.getD j []) (on.map (idx sc)) = R.getD k []) : collect sc (L.take (j + 1)) ws on R k = collect sc (L.take j) ws on R k ++ [rd ws (j : Int)] := by
  have h2 := (cut_pos hR hk).2 h
  rw [collect_yes hj h2.1 (by omega), if_pos h2.2]
theorem collect_out {sc : List Int} {L : List (List Int)} {ws on : List Int} {R : List (List Int)} (hR : Pl.Up R) {j k : Nat} (hj : j < L.length) (hw : ws.length = L.length) (hk : k < R.length) (h : pick (L.getD j []) (on.map (idx sc)) ≠ R.getD k []) : collect sc (L.take (j + 1)) ws on R k = collect sc (L.take j) ws on R k := by
  by_cases hin : pick (L.getD j []) (on.map (idx sc)) ∈ R
  · rw [collect_yes hj hin (by omega), if_neg (fun e => h ((cut_pos hR hk).1 ⟨hin, e⟩))]
  · exact collect_no hj (fun h2 => hin h2.1) k
theorem parted_get {sc : List Int} {L : List (List Int)} {ws on : List Int} {R : List (List Int)} {k : Nat} (hk : k < R.length) : (partedTo ⟨sc, L, ws⟩ on R)[k]? = some (collect sc L ws on R k) := by simp [partedTo, hk]
theorem tot_snoc (l : List Int) (x : Int) : tot (l ++ [x]) = tot l + (x.natAbs : Int) := by rw [tot_append]; simp [tot]
theorem sum_snoc (l : List Int) (x : Int) : (l ++ [x]).sum = l.sum + x := by rw [List.sum_append]; simp
theorem collect_mono {sc : List Int} {L : List (List Int)} {ws on : List Int} {R : List (List Int)} (hw : ws.length = L.length) (hR : Pl.Up R) {k : Nat} (hk : k < R.length) : ∀ d j, j + d = L.length → tot (collect sc (L.take j) ws on R k) ≤ tot (collect sc L ws on R k) := by
  intro d
  induction d with
  | zero => intro j h; rw [List.take_of_length_le (by omega)]; exact Int.le_refl _
  | succ d ih =>
    intro j h
    refine Int.le_trans ?_ (ih (j + 1) (by omega))
    by_cases e : pick (L.getD j []) (on.map (idx sc)) = R.getD k []
    · rw [collect_in hR (by omega) hw hk e, tot_snoc]; omega
    · rw [collect_out hR (by omega) hw hk e]; exact Int.le_refl _
end Go.Proofs.YtlmkgghpaaadhaaGreatDoor.G

/- The document's Sum of weights, walked. -/
set_option linter.unusedVariables false
set_option linter.unusedSimpArgs false
namespace Go.Proofs.YtlmkgghpaaadhaaGreatDoor.G
open Go.RowKit Go.Proofs.YtlmkgghpaaadhaaGreatDoorW.PrintWords Go.Proofs.YtlmkgghpaaadhaaGreatDoorW.PrintLast Go.Proofs.YtlmkgghpaaadhaaGreatDoorW.PrintMore Go.Proofs.YtlmkgghpaaadhaaGreatDoor.PRefs

/-- What the document's Sum leaves. -/
def SumTo (w w' : World) (e : Ending) (on : List Int) (R : List (List Int)) (S : List WtS) (ok : Bool) : Prop :=
  ∃ A c A' c' A4 c4, Below w.heap.size w w' ∧ ((ok = true ∧ e = .returned (.tuple #[.agg #[.slice A on.length c, .slice A' R.length c', .slice A4 R.length c4], .bool true]) ∧ RelRd w' A c on A' c' R ∧ Kd.C KWt w' A4 R.length S) ∨ (ok = false ∧ e = .returned (.tuple #[.agg #[.slice none 0 0, .slice none 0 0, .slice none 0 0], .bool false])))
section
variable {A : Option Addr} {c : Nat} {sc : List Int} {A' : Option Addr} {c' : Nat} {L : List (List Int)} {A4 : Option Addr} {c4 : Nat} {ws : List Int} {Av : Option Addr} {cv : Nat} {vars : List Int} {w : World}
set_option maxHeartbeats 8000000 in
set_option maxRecDepth 100000 in
theorem refsum_any (h : RelRd w A c sc A' c' L) (hD : Kd.C KWt w A4 L.length (dW ws)) (hw : ws.length = L.length) (hin : InW ws) (hr : RightP sc L) (hm : sc.length ≤ 1000000) (hm1 : L.length ≤ 1000000) (hv : Kd.C KI w Av vars.length vars)
    {on : List Int} {R : List (List Int)} (hP : projRel sc L vars = (on, R)) {ok : Bool} (hok : decide (∀ l ∈ partedTo ⟨sc, L, ws⟩ on R, tot l ≤ 4611686018427387904) = ok) :
    Calls Tryz.prog 23 #[.agg #[.slice A sc.length c, .slice A' L.length c', .slice A4 L.length c4], .slice Av vars.length cv, .int .i64 4611686018427387904] w fun e w' => SumTo w w' e on R (dW ((partedTo ⟨sc, L, ws⟩ on R).map List.sum)) ok := by
  have hon : on = onto sc vars := (Prod.mk.inj hP).1.symm
  have hRc : R = cutRows sc L on := by rw [hon]; exact (Prod.mk.inj hP).2.symm
  have hRu : Pl.Up R := by rw [hRc]; exact cutRows_up _ _ _
  have hRl : R.length ≤ 1000000 := by rw [hRc]; exact Nat.le_trans (cutRows_len _ _ _) hm1
  have hor : Rise on := by rw [hon, onto_eq _ _ hr.1.1]; exact Rise.filter hr.1.1 _
  have hos : ∀ v ∈ on, v ∈ sc := fun v hv => by rw [hon, onto_eq _ _ hr.1.1] at hv; exact memF hv
  have hRx : ∀ x ∈ R, x.length = on.length := by rw [hRc]; exact cut_row sc L on hr.2.1 hos
  have HP := Aside0.mk hP
  have HOK := Aside0.mk hok
  have HRR := Aside0.mk (And.intro h (And.intro hD (And.intro hw (And.intro hin hr))))
  have HQ := Aside0.mk (And.intro hRu (And.intro hor (And.intro hos hRx)))
  have HVV := Aside0.mk hv
  obtain ⟨PT, hPT⟩ : ∃ PT, partedTo ⟨sc, L, ws⟩ on R = PT := ⟨_, rfl⟩
  have hPTl : PT.length = R.length := by rw [← hPT]; simp [partedTo]
  obtain ⟨SS, hSS⟩ : ∃ SS, PT.map List.sum = SS := ⟨_, rfl⟩
  have HPT := Aside0.mk (And.intro hPT (And.intro hPTl hSS))
  have HSSL := Aside0.mk (show SS.length = R.length from by rw [← hSS, List.length_map, hPTl])
  rw [hPT] at HOK
  rw [hPT, hSS]
  clear hSS
  obtain ⟨W0, hW0⟩ : ∃ W0, (w.alloc (.cells #[.slice A sc.length c, .slice A' L.length c', .slice A4 L.length c4] 34)).alloc (.cells #[.slice none 0 0, .slice none 0 0, .slice none 0 0] 34) = W0 := ⟨_, rfl⟩
  have hb0 : Below w.heap.size w W0 := by rw [← hW0]; exact below_alloc (below_alloc (Below.refl _ _) _) _
  have hk0 : W0.heap[w.heap.size]? = some (.cells #[.slice A sc.length c, .slice A' L.length c', .slice A4 L.length c4] 34 (0, 0)) := by rw [← hW0]; exact blk_two1 _ _ _
  have hz0 : W0.heap[w.heap.size + 1]? = some (.cells #[.slice none 0 0, .slice none 0 0, .slice none 0 0] 34 (0, 0)) := by rw [← hW0]; exact blk_two2 _ _ _
  have hs0 : W0.heap.size = w.heap.size + 2 := by rw [← hW0]; simp
  have H0 := Aside0.mk (And.intro hb0 (And.intro hk0 (And.intro hz0 hs0)))
  obtain ⟨q0, q1, q2⟩ := blk3_c hk0
  clear hon hRc hRu hor hos hRx hP hok h hD hw hin hr hv hPT hPTl hb0 hk0 hz0 hs0
  go_enter Tryz.func23, Tryz.ntmps23
  go_upto_block 0 with (go_at_call 47; refine (refproject_m (HRR.out.1.step H0.out.1) HRR.out.2.2.2.2.1.1 (by omega) (by omega) (Kd.C_below HVV.out H0.out.1) HP.out).mono ?_; rintro e w1 ⟨A2, c2, A3, c3, rfl, hM, hb⟩; have HM1 := Aside0.mk (And.intro hM hb); clear hM hb)
  clear hW0 q0 q1 q2
  have HWO := Aside0.mk (WOutD.new w1 (.slice A2 on.length c2) (.slice A3 R.length c3))
  generalize w1.alloc (.cells #[.slice A2 on.length c2, .slice A3 R.length c3, .slice none 0 0] 34) = W5 at HWO ⊢
  have HW1 := Aside0.mk (show Below w.heap.size w w1 ∧ w1.heap[w.heap.size]? = some (.cells #[.slice A sc.length c, .slice A' L.length c', .slice A4 L.length c4] 34 (0, 0)) ∧ w1.heap[w.heap.size + 1]? = some (.cells #[.slice none 0 0, .slice none 0 0, .slice none 0 0] 34 (0, 0)) ∧ w.heap.size + 2 ≤ w1.heap.size from
    ⟨below_then H0.out.1 H0.out.1.size HM1.out.2, (HM1.out.2.block _ (Array.getElem?_eq_some_iff.1 H0.out.2.1).1).trans H0.out.2.1, (HM1.out.2.block _ (Array.getElem?_eq_some_iff.1 H0.out.2.2.1).1).trans H0.out.2.2.1, by have h1 := HM1.out.2.size; have h2 := H0.out.2.2.2; omega⟩)
  have HRD := Aside0.mk (show RelRd w1 A2 c2 on A3 c3 R from RelM.rd' HM1.out.1)
  obtain ⟨g, hg⟩ : ∃ g, w1.heap.size = g := ⟨_, rfl⟩
  have HG := Aside0.mk hg
  rw [hg]
  clear hg
  go_wp2_with fail
  go_loopw [9] (fun i W => ∃ (k : Nat) (s : Value), k ≤ R.length ∧ i = .int .i64 k ∧ Aside0 (∀ l ∈ PT.take k, tot l ≤ 4611686018427387904) ∧ Aside0 (WOutD w1 (.slice A2 on.length c2) (.slice A3 R.length c3) s (dW (SS.take k)) W)) (fun i _ => R.length - (intOf i).toNat)
  case atStart => exact ⟨0, _, Nat.zero_le _, rfl, ⟨by simp⟩, HWO⟩
  case round =>
    clear HWO
    obtain ⟨k, s, hk, rfl, HPK, HO⟩ := hrel
    obtain ⟨As, cs, rfl⟩ := Kd.R_slice HO.out.row
    have hlk : (dW (SS.take k)).length = k := by rw [dW_len, List.length_take, HSSL.out]; omega
    have HLK := Aside0.mk hlk
    rw [hlk] at HO
    have hbo := HO.out.blk
    rw [HG.out] at hbo
    obtain ⟨s0, s1, s2⟩ := blk3_c hbo
    clear hbo hlk
    by_cases hlt : k < R.length
    · have hkl : (k : Int) < (R.length : Int) := by omega
      obtain ⟨CK, hCK⟩ : ∃ CK, collect sc L ws on R k = CK := ⟨_, rfl⟩
      have HCK := Aside0.mk hCK
      have HPG := Aside0.mk (show PT.take (k + 1) = PT.take k ++ [CK] from by
        have h1 := parted_get (sc := sc) (L := L) (ws := ws) (on := on) hlt
        rw [HPT.out.1, hCK] at h1
        obtain ⟨h2, h3⟩ := List.getElem?_eq_some_iff.1 h1
        rw [List.take_succ_eq_append_getElem h2, h3])
      have HSG := Aside0.mk (show SS.take (k + 1) = SS.take k ++ [CK.sum] from by
        rw [← HPT.out.2.2, ← List.map_take, HPG.out, List.map_append, List.map_take]; rfl)
      clear hCK
      obtain ⟨adR, Bx, cx, hA3, hx, hlx, hcx⟩ := at_row HRD.out.rows HO.out.bel k hlt
      subst hA3
      have HRX := Aside0.mk (show (R.getD k []).length = on.length from HQ.out.2.2.2 _ (by rw [getD_get _ _ hlt]; exact List.getElem_mem hlt))
      obtain ⟨x, hxe⟩ : ∃ x, R.getD k [] = x := ⟨_, rfl⟩
      rw [HRX.out] at hx
      rw [hxe] at hcx HRX
      have HX := Aside0.mk (And.intro hcx (And.intro hx hxe))
      have HSS := Aside0.mk (And.intro s0 (And.intro s1 s2))
      clear hcx hlx hxe hx
      go_upto_block 2 with fail
      rename World => wo
      have HSN := Aside0.mk (SumSt.new wo)
      generalize (wo.alloc (.cells #[.int .i64 0, .int .i64 0] 68)).alloc (.cells #[.int .i64 4611686018427387904, .int .i64 4611686018427387904] 68) = W6 at HSN ⊢
      clear s0 s1 s2
      go_wp2_with fail
      go_loopw [12] (fun i W => ∃ (j : Nat) (T : List Int), j ≤ L.length ∧ i = .int .i64 j ∧ Aside0 (collect sc (L.take j) ws on R k = T ∧ tot T ≤ 4611686018427387904) ∧ Aside0 (SumSt wo W T.sum (4611686018427387904 - tot T))) (fun i _ => L.length - (intOf i).toNat)
      case atStart => exact ⟨0, [], Nat.zero_le _, rfl, ⟨by simp [collect], by simp [tot]⟩, HSN⟩
      case round =>
        clear HSN
        obtain ⟨j, T, hj, rfl, HT, HS⟩ := hrel
        have s0 := cell_below HS.out.bel HSS.out.1
        have s1 := cell_below HS.out.bel HSS.out.2.1
        have s2 := cell_below HS.out.bel HSS.out.2.2
        have hx := cell_below HS.out.bel HX.out.2.1
        have hB1 := below_then HO.out.bel HO.out.bel.size HS.out.bel
        obtain ⟨q0, q1, q2⟩ := blk3_c ((hB1.block _ (Array.getElem?_eq_some_iff.1 HW1.out.2.1).1).trans HW1.out.2.1)
        have HB1 := Aside0.mk (And.intro hB1 (below_then HW1.out.1 HW1.out.1.size hB1))
        clear hB1
        by_cases hjt : j < L.length
        · have hjl : (j : Int) < (L.length : Int) := by omega
          obtain ⟨adL, By, cy, hA', hy, hly, hcy⟩ := at_row HRR.out.1.rows HB1.out.2 j hjt
          subst hA'
          have HLY := Aside0.mk (show (L.getD j []).length = sc.length from HRR.out.2.2.2.2.2.1 _ (by rw [getD_get _ _ hjt]; exact List.getElem_mem hjt))
          obtain ⟨y, hye⟩ : ∃ y, L.getD j [] = y := ⟨_, rfl⟩
          rw [HLY.out] at hy
          rw [hye] at hcy HLY
          obtain ⟨f, hf⟩ : ∃ f, fits on sc x y = f := ⟨_, rfl⟩
          have HF := Aside0.mk (And.intro hf (fits_cut HRR.out.2.2.2.2.1.1 HQ.out.2.1 HQ.out.2.2.1 HRX.out HLY.out))
          have HY := Aside0.mk (And.intro hcy hye)
          clear hcy hly hye hf
          have HC1 := Aside0.mk (And.intro (Kd.C_below HRD.out.row (below_then HO.out.bel HO.out.bel.size HS.out.bel)) (And.intro (Kd.C_below HX.out.1 HS.out.bel) (Kd.C_below HRR.out.1.row HB1.out.2)))
          cases f with
          | false =>
            have HCO := Aside0.mk (collect_out (sc := sc) (ws := ws) (on := on) HQ.out.1 hjt HRR.out.2.2.1 hlt (by rw [HY.out.2, HX.out.2.2]; intro e; have h1 := HF.out.2.2 e; rw [HF.out.1] at h1; cases h1))
            go_upto_region 10 with fail
            go_quiet ((go_at_call 48; exact Calls.quiet_of (fit_q _ HC1.out.1 HC1.out.2.1 HC1.out.2.2 HY.out.1 HQ.out.2.1.nodup HRX.out HLY.out rfl HRX.out rfl HLY.out false HF.out.1)))
            go_wp2
            go_roundw
            case rel => exact ⟨j + 1, T, by omega, by go_num, ⟨by rw [HCO.out]; exact HT.out.1, HT.out.2⟩, ⟨HS.out.step (pw_below_drewN (Below.refl _ _) _)⟩⟩
            case measure => simp [intOf]; omega
          | true =>
            have HCI := Aside0.mk (collect_in (sc := sc) (ws := ws) (on := on) HQ.out.1 hjt HRR.out.2.2.1 hlt (by rw [HY.out.2, HX.out.2.2]; exact HF.out.2.1 HF.out.1))
            have HWJ := Aside0.mk (show j < ws.length from by rw [HRR.out.2.2.1]; exact hjt)
            obtain ⟨xv, hxv⟩ : ∃ xv, rd ws (j : Int) = xv := ⟨_, rfl⟩
            have HXI := Aside0.mk (show xv.natAbs ≤ 4611686018427387904 from by rw [← hxv, rd_get _ _ HWJ.out]; exact HRR.out.2.2.2.1 _ (List.getElem_mem _))
            go_upto_region 10 with fail
            go_quiet ((go_at_call 48; exact Calls.quiet_of (fit_q _ HC1.out.1 HC1.out.2.1 HC1.out.2.2 HY.out.1 HQ.out.2.1.nodup HRX.out HLY.out rfl HRX.out rfl HLY.out true HF.out.1)))
            obtain ⟨adW, hA4, he0, he1⟩ := at_T68 HRR.out.2.1 (j : Int) (by omega) hjl
            subst hA4
            rw [rd_dW HWJ.out, hxv] at he0 he1
            simp only [Int.toNat_natCast] at he0 he1
            generalize hdr : World.drewN _ _ = wd
            have hbd : Below wr.heap.size wr wd := by rw [← hdr]; exact pw_below_drewN (Below.refl _ _) _
            have HSD := Aside0.mk (HS.out.step hbd)
            have HBD := Aside0.mk (below_then HB1.out.2 HB1.out.2.size hbd)
            have x0 := cell_below HBD.out he0
            have x1 := cell_below HBD.out he1
            have y0 := cell_below hbd q0
            have y1 := cell_below hbd q1
            have y2 := cell_below hbd q2
            have HXV := Aside0.mk hxv
            have HBW := Aside0.mk (below_then (below_then HB1.out.1 HB1.out.1.size hbd) (Nat.le_trans HB1.out.1.size hbd.size) (below_alloc (Below.refl wd.heap.size wd) (.cells #[.int .i64 xv, .int .i64 0] 68)))
            clear q0 q1 q2 s0 s1 s2 hx hy he0 he1 hdr hbd hxv
            go_upto_region 13 with fail
            have HSE := Aside0.mk (HSD.out.step (below_alloc (Below.refl wd.heap.size wd) (.cells #[.int .i64 xv, .int .i64 0] 68)))
            have hxb := heap_alloc_new wd (.cells #[.int .i64 xv, .int .i64 0] 68)
            have HXB := Aside0.mk (show (wd.alloc (.cells #[.int .i64 xv, .int .i64 0] 68)).heap[wd.heap.size]? = some (.cells #[.int .i64 xv, .int .i64 0] 68 (0, 0)) ∧ wo.heap.size + 1 < wd.heap.size from ⟨hxb, (Array.getElem?_eq_some_iff.1 HSD.out.lb).1⟩)
            clear hxb x0 x1 y0 y1 y2
            generalize wd.alloc (.cells #[.int .i64 xv, .int .i64 0] 68) = W8 at HSE HXB HBW ⊢
            generalize wd.heap.size = gx at HXB ⊢
            have z0 := blk2_c0 HXB.out.1
            have z1 := blk2_c1 HXB.out.1
            have v0 := blk2_c0 HSE.out.lb
            have v1 := blk2_c1 HSE.out.lb
            obtain ⟨xa, hxa⟩ : ∃ xa, (xv.natAbs : Int) = xa := ⟨_, rfl⟩
            obtain ⟨lv, hlv⟩ : ∃ lv, 4611686018427387904 - tot T = lv := ⟨_, rfl⟩
            obtain ⟨ts, hts⟩ : ∃ ts, T.sum = ts := ⟨_, rfl⟩
            have hx0 : 0 ≤ xa := by omega
            have hx1 : xa ≤ 4611686018427387904 := by have h1 := HXI.out; omega
            have hl0 : 0 ≤ lv := by have h1 := HT.out.2; omega
            have hl1 : lv ≤ 4611686018427387904 := by have h1 := tot_nonneg T; omega
            have HSQ := Aside0.mk (size4_q xv HXI.out)
            rw [hxa] at HSQ
            have HSM := Aside0.mk (size4_same xv HXI.out)
            rw [hxa] at HSM
            rw [hlv] at v0
            have HXA := Aside0.mk (And.intro hxa (And.intro hlv hts))
            clear hxa hlv hts
            by_cases hgt : lv < xa
            · have hg1 : decide (lv < xa) = true := decide_eq_true hgt
              have HGT := Aside0.mk hgt
              go_quiet ((go_at_call 49; exact Calls.quiet_of (HSQ.out _ _)))
              generalize hdr : World.drewN _ _ = W9
              have hbd : Below W8.heap.size W8 W9 := by rw [← hdr]; exact pw_below_drewN (Below.refl _ _) _
              have hB9 := below_then HBW.out HBW.out.size hbd
              have hz9 := (hB9.block _ (Array.getElem?_eq_some_iff.1 HW1.out.2.2.1).1).trans HW1.out.2.2.1
              have HB9 := Aside0.mk (below_then HW1.out.1 HW1.out.1.size hB9)
              obtain ⟨⟨p0, p1⟩, ⟨p2, p3⟩, ⟨p4, p5⟩⟩ := blk3_put hz9 (.slice none 0 0) (.slice none 0 0) (.slice none 0 0)
              obtain ⟨r0, r1, r2⟩ := blk3_c (blk3_three hz9 (.slice none 0 0) (.slice none 0 0) (.slice none 0 0))
              clear hdr hbd hB9 hz9 z0 z1 v0 v1 hg1
              go_wp2
              refine bodyPost_ret (v := .tuple #[.agg #[.slice none 0 0, .slice none 0 0, .slice none 0 0], .bool false]) (by simp [results, Tryz.results23, go_sem, r0, r1, r2]) rfl ?_
              refine ⟨none, 0, none, 0, none, 0, ((HB9.out.setCell (p := ⟨w.heap.size + 1, 0, none⟩) (Nat.le_succ _) _).setCell (p := ⟨w.heap.size + 1, 1, none⟩) (Nat.le_succ _) _).setCell (p := ⟨w.heap.size + 1, 2, none⟩) (Nat.le_succ _) _, .inr ⟨?_, rfl⟩⟩
              rw [← HOK.out]
              refine decide_eq_false fun hall => ?_
              have hin : CK ∈ PT := List.mem_of_mem_take (i := k + 1) (by rw [HPG.out]; simp)
              have h1 := hall CK hin
              have h2 := collect_mono (sc := sc) (on := on) HRR.out.2.2.1 HQ.out.1 hlt (L.length - (j + 1)) (j + 1) (by omega)
              rw [HCK.out, HCI.out, HT.out.1, HXV.out, tot_snoc, HXA.out.1] at h2
              have h3 := HXA.out.2.1
              have h4 := HGT.out
              omega
            · have hg1 : decide (lv < xa) = false := decide_eq_false hgt
              go_quiet ((first | (go_at_call 49; exact Calls.quiet_of (HSQ.out _ _)) | (go_at_call 49; exact Calls.quiet_of (size4_q 0 (by decide) _ _))))
              generalize hdr : World.drewN _ _ = W9
              have hbd : Below W8.heap.size W8 W9 := by rw [← hdr]; exact pw_below_drewN (Below.refl _ _) _
              have HS9 := Aside0.mk (HSE.out.step hbd)
              have HX9 := Aside0.mk (show W9.heap[gx]? = some (.cells #[.int .i64 xv, .int .i64 0] 68 (0, 0)) ∧ wo.heap.size + 1 < gx from ⟨(hbd.block _ (Array.getElem?_eq_some_iff.1 HXB.out.1).1).trans HXB.out.1, HXB.out.2⟩)
              clear hdr hbd z0 z1 v0 v1 hg1
              obtain ⟨l2, hl2⟩ : ∃ l2, lv - xa = l2 := ⟨_, rfl⟩
              have hws : IntKind.i64.wrap (lv - xa) = l2 := by rw [Go.IntWalk.i64_in _ (by omega)]; exact hl2
              have hws' : wrap64 (lv - xa) = l2 := by rw [Go.IntWalk.wrap64_in _ (by omega)]; exact hl2
              have HL2 := Aside0.mk hl2
              have hts0 := sum_le_tot T
              obtain ⟨ts2, hts2⟩ : ∃ ts2, ts + xv = ts2 := ⟨_, rfl⟩
              have hwt : wrap64 (ts + xv) = ts2 := by
                have h1 := HXA.out.1
                have h2 := HXA.out.2.1
                have h3 := HXA.out.2.2
                rw [h3] at hts0
                rw [Go.IntWalk.wrap64_in _ (by omega)]; exact hts2
              have HTS := Aside0.mk (And.intro hts2 hwt)
              clear hl2 hts0 hts2 hwt
              have HS10 := Aside0.mk (HS9.out.step (below_drew (Below.refl W9.heap.size W9)))
              have HX10 := Aside0.mk (show W9.drew.heap[gx]? = some (.cells #[.int .i64 xv, .int .i64 0] 68 (0, 0)) from ((below_drew (Below.refl W9.heap.size W9)).block _ (Array.getElem?_eq_some_iff.1 HX9.out.1).1).trans HX9.out.1)
              have e0 : World.cell? W9.drew ⟨wo.heap.size + 1, 0, none⟩ = some (.int .i64 lv) := by have h := blk2_c0 HS10.out.lb; rw [HXA.out.2.1] at h; exact h
              have e1 : World.cell? W9.drew ⟨gx, 0, none⟩ = some (.int .i64 xv) := blk2_c0 HX10.out
              have HFR := Aside0.mk (show World.frozen? W9.drew ⟨wo.heap.size + 1, 0, none⟩ = false from blk_fr HS10.out.lb)
              go_upto_region 15 with fail
              refine start_ (n := 8) (S := fun w' => w'.cell? ⟨wo.heap.size + 1, 0, none⟩ = some (.int .i64 (lv)) ∧ w'.cell? ⟨gx, 0, none⟩ = some (.int .i64 xv)) (ds := [7]) #[false, false, false, false, false, false, false, false] (by kernel_rfl) rfl rfl ⟨e0, e1⟩ (fun hHeld => ?_)
              generalize hD : W9.drew = w17 at *
              clear hD
              refine pure_ (i := 0) (N := some 81) (v := ?_) (a' := ?_) #[true, false, false, false, false, false, false, false] rfl rfl (by kernel_rfl) (fun _ _ _ h => h) (Or.inl ⟨by rfl, ?_⟩) ?_ ?_
              rotate_left
              · intro w'
                go_simp
                with_reducible rfl
              rotate_left
              · simp only [Act.put, List.setIfInBounds_toArray, List.set_cons_zero, List.set_cons_succ, i64_w, i32_w]
                rfl
              refine take_ (i := 1) (N := some 82) (v := ?_) (a' := ?_) #[true, true, false, false, false, false, false, false] rfl rfl (by kernel_rfl) (fun _ _ _ h => h) (Or.inl ⟨by rfl, ?_⟩) hHeld ?_ ?_
              rotate_left
              · rintro w' ⟨s0, s1⟩
                go_simp
                with_reducible rfl
              rotate_left
              · simp only [Act.put, List.setIfInBounds_toArray, List.set_cons_zero, List.set_cons_succ, i64_w, i32_w]
                rfl
              refine pure_ (i := 2) (N := some 83) (v := ?_) (a' := ?_) #[true, true, true, false, false, false, false, false] rfl rfl (by kernel_rfl) (fun _ _ _ h => h) (Or.inl ⟨by rfl, ?_⟩) ?_ ?_
              rotate_left
              · intro w'
                go_simp
                with_reducible rfl
              rotate_left
              · simp only [Act.put, List.setIfInBounds_toArray, List.set_cons_zero, List.set_cons_succ, i64_w, i32_w]
                rfl
              refine take_ (i := 3) (N := some 84) (v := ?_) (a' := ?_) #[true, true, true, true, false, false, false, false] rfl rfl (by kernel_rfl) (fun _ _ _ h => h) (Or.inl ⟨by rfl, ?_⟩) hHeld ?_ ?_
              rotate_left
              · rintro w' ⟨s0, s1⟩
                go_simp
                with_reducible rfl
              rotate_left
              · simp only [Act.put, List.setIfInBounds_toArray, List.set_cons_zero, List.set_cons_succ, i64_w, i32_w]
                rfl
              refine one_ (i := 4) (N := some 85) #[true, true, true, true, true, false, false, false] rfl rfl (by kernel_rfl) (by decide) (fun K hK => ?_)
              refine goes_ Tryz.func49 (by kernel_rfl) rfl #[.int .i64 xv] (by rfl) rfl rfl (by (try simp only [List.map_toArray, List.map_cons, List.map_nil]); first | done | rfl) ?_
              refine (HSM.out _).mono ?_
              rintro e w' ⟨rfl, rfl⟩
              refine ⟨_, rfl, ?_⟩
              refine hK.out _ _ ⟨e0, e1⟩ (fun hHeld => ?_)
              clear hK K
              refine norm_ (a' := ?_) ?_ ?_
              rotate_left
              · show Act.put _ (some 85) _ = _
                simp only [Act.put, List.setIfInBounds_toArray, List.set_cons_zero, List.set_cons_succ, i64_w, i32_w]
                rfl
              refine pure_ (i := 5) (N := some 86) (v := ?_) (a' := ?_) #[true, true, true, true, true, true, false, false] rfl rfl (by kernel_rfl) (fun _ _ _ h => h) (Or.inl ⟨by rfl, ?_⟩) ?_ ?_
              rotate_left
              · intro w'
                go_simp
                with_reducible rfl
              rotate_left
              · simp only [Act.put, List.setIfInBounds_toArray, List.set_cons_zero, List.set_cons_succ, i64_w, i32_w]
                rfl
              refine pure_ (i := 6) (N := some 87) (v := ?_) (a' := ?_) #[true, true, true, true, true, true, true, false] rfl rfl (by kernel_rfl) (fun _ _ _ h => h) (Or.inl ⟨by rfl, ?_⟩) ?_ ?_
              rotate_left
              · intro w'
                go_simp
                with_reducible rfl
              rotate_left
              · simp only [Act.put, List.setIfInBounds_toArray, List.set_cons_zero, List.set_cons_succ, i64_w, i32_w]
                rfl
              refine last_ (i := 7) (N := none) #[true, true, true, true, true, true, true, true] rfl rfl (by kernel_rfl) (by decide) (fun K hK => ?_)
              have z0 := e0
              have z1 := HFR.out
              refine skip_ (w1 := ?_) (by rfl) rfl ?_ ?_
              rotate_left
              · go_simp
                rfl
              refine hK.out _ _ ?_
              clear hK K
              refine done_ (by kernel_rfl) ?_
              have HS11 := Aside0.mk (HS10.out.putL l2)
              have HX11 := Aside0.mk ((Below.heap_setCell w17 ⟨wo.heap.size + 1, 0, none⟩ (.int .i64 l2) gx (by have h := HX9.out.2; show gx ≠ wo.heap.size + 1; omega)).trans HX10.out)
              clear HS10 HX10 HS9 HFR hws hws'
              generalize w17.setCell ⟨wo.heap.size + 1, 0, none⟩ (.int .i64 l2) = W11 at HS11 HX11 ⊢
              have HS12 := Aside0.mk (HS11.out.step (below_drew (Below.refl W11.heap.size W11)))
              have HX12 := Aside0.mk (((below_drew (Below.refl W11.heap.size W11)).block _ (Array.getElem?_eq_some_iff.1 HX11.out).1).trans HX11.out)
              have e0 : World.cell? W11.drew ⟨wo.heap.size + 1, 1, none⟩ = some (.int .i64 4611686018427387904) := blk2_c1 HS12.out.lb
              have e1 : World.cell? W11.drew ⟨gx, 1, none⟩ = some (.int .i64 0) := blk2_c1 HX12.out
              have HFR := Aside0.mk (show World.frozen? W11.drew ⟨wo.heap.size + 1, 1, none⟩ = false from blk_fr HS12.out.lb)
              clear HS11 HX11
              go_upto_region 16 with fail
              refine start_ (n := 8) (S := fun w' => w'.cell? ⟨wo.heap.size + 1, 1, none⟩ = some (.int .i64 (4611686018427387904)) ∧ w'.cell? ⟨gx, 1, none⟩ = some (.int .i64 0)) (ds := [7]) #[false, false, false, false, false, false, false, false] (by kernel_rfl) rfl rfl ⟨e0, e1⟩ (fun hHeld => ?_)
              generalize hD : W11.drew = w17 at *
              clear hD
              refine pure_ (i := 0) (N := some 88) (v := ?_) (a' := ?_) #[true, false, false, false, false, false, false, false] rfl rfl (by kernel_rfl) (fun _ _ _ h => h) (Or.inl ⟨by rfl, ?_⟩) ?_ ?_
              rotate_left
              · intro w'
                go_simp
                with_reducible rfl
              rotate_left
              · simp only [Act.put, List.setIfInBounds_toArray, List.set_cons_zero, List.set_cons_succ, i64_w, i32_w]
                rfl
              refine take_ (i := 1) (N := some 89) (v := ?_) (a' := ?_) #[true, true, false, false, false, false, false, false] rfl rfl (by kernel_rfl) (fun _ _ _ h => h) (Or.inl ⟨by rfl, ?_⟩) hHeld ?_ ?_
              rotate_left
              · rintro w' ⟨s0, s1⟩
                go_simp
                with_reducible rfl
              rotate_left
              · simp only [Act.put, List.setIfInBounds_toArray, List.set_cons_zero, List.set_cons_succ, i64_w, i32_w]
                rfl
              refine pure_ (i := 2) (N := some 90) (v := ?_) (a' := ?_) #[true, true, true, false, false, false, false, false] rfl rfl (by kernel_rfl) (fun _ _ _ h => h) (Or.inl ⟨by rfl, ?_⟩) ?_ ?_
              rotate_left
              · intro w'
                go_simp
                with_reducible rfl
              rotate_left
              · simp only [Act.put, List.setIfInBounds_toArray, List.set_cons_zero, List.set_cons_succ, i64_w, i32_w]
                rfl
              refine take_ (i := 3) (N := some 91) (v := ?_) (a' := ?_) #[true, true, true, true, false, false, false, false] rfl rfl (by kernel_rfl) (fun _ _ _ h => h) (Or.inl ⟨by rfl, ?_⟩) hHeld ?_ ?_
              rotate_left
              · rintro w' ⟨s0, s1⟩
                go_simp
                with_reducible rfl
              rotate_left
              · simp only [Act.put, List.setIfInBounds_toArray, List.set_cons_zero, List.set_cons_succ, i64_w, i32_w]
                rfl
              refine one_ (i := 4) (N := some 92) #[true, true, true, true, true, false, false, false] rfl rfl (by kernel_rfl) (by decide) (fun K hK => ?_)
              refine goes_ Tryz.func49 (by kernel_rfl) rfl #[.int .i64 0] (by rfl) rfl rfl (by (try simp only [List.map_toArray, List.map_cons, List.map_nil]); first | done | rfl) ?_
              refine (size4_same 0 (by decide) _).mono ?_
              rintro e w' ⟨rfl, rfl⟩
              refine ⟨_, rfl, ?_⟩
              refine hK.out _ _ ⟨e0, e1⟩ (fun hHeld => ?_)
              clear hK K
              refine norm_ (a' := ?_) ?_ ?_
              rotate_left
              · show Act.put _ (some 92) _ = _
                simp only [Act.put, List.setIfInBounds_toArray, List.set_cons_zero, List.set_cons_succ, i64_w, i32_w]
                rfl
              refine pure_ (i := 5) (N := some 93) (v := ?_) (a' := ?_) #[true, true, true, true, true, true, false, false] rfl rfl (by kernel_rfl) (fun _ _ _ h => h) (Or.inl ⟨by rfl, ?_⟩) ?_ ?_
              rotate_left
              · intro w'
                go_simp
                with_reducible rfl
              rotate_left
              · simp only [Act.put, List.setIfInBounds_toArray, List.set_cons_zero, List.set_cons_succ, i64_w, i32_w]
                rfl
              refine pure_ (i := 6) (N := some 94) (v := ?_) (a' := ?_) #[true, true, true, true, true, true, true, false] rfl rfl (by kernel_rfl) (fun _ _ _ h => h) (Or.inl ⟨by rfl, ?_⟩) ?_ ?_
              rotate_left
              · intro w'
                go_simp
                with_reducible rfl
              rotate_left
              · simp only [Act.put, List.setIfInBounds_toArray, List.set_cons_zero, List.set_cons_succ, i64_w, i32_w]
                rfl
              refine last_ (i := 7) (N := none) #[true, true, true, true, true, true, true, true] rfl rfl (by kernel_rfl) (by decide) (fun K hK => ?_)
              have z0 := e0
              have z1 := HFR.out
              refine skip_ (w1 := ?_) (by rfl) rfl ?_ ?_
              rotate_left
              · go_simp
                rfl
              refine hK.out _ _ ?_
              clear hK K
              refine done_ (by kernel_rfl) ?_
              rw [show wrap64 4611686018427387904 = 4611686018427387904 from Go.IntWalk.wrap64_in _ (by omega)]
              have HS13 := Aside0.mk (HS12.out.putM)
              have HX13 := Aside0.mk ((Below.heap_setCell w17 ⟨wo.heap.size + 1, 1, none⟩ (.int .i64 4611686018427387904) gx (by have h := HX9.out.2; show gx ≠ wo.heap.size + 1; omega)).trans HX12.out)
              clear HS12 HX12 HFR
              generalize w17.setCell ⟨wo.heap.size + 1, 1, none⟩ (.int .i64 4611686018427387904) = W13 at HS13 HX13 ⊢
              have hs0 := blk2_s0 HS13.out.wb (.int .i64 ts2)
              have hX' := (Below.heap_setCell W13 ⟨wo.heap.size, 0, none⟩ (.int .i64 ts2) gx (by have h := HX9.out.2; show gx ≠ wo.heap.size; omega)).trans HX13.out
              have u0 : World.cell? W13 ⟨wo.heap.size, 0, none⟩ = some (.int .i64 ts) := by have h := blk2_c0 HS13.out.wb; rw [HXA.out.2.2] at h; exact h
              have u1 := blk_fr (i := 0) HS13.out.wb
              have u2 := blk2_c1 hs0
              have u3 := blk_fr (i := 1) hs0
              have x0 := blk2_c0 HX13.out
              have x1 := blk2_c1 hX'
              have hwt := HTS.out.2
              clear hs0 hX'
              go_wp2
              go_roundw
              case measure => simp [intOf]; omega
              case rel =>
                refine ⟨j + 1, T ++ [xv], by omega, by go_num, ⟨by rw [HCI.out, HT.out.1, HXV.out], ?_⟩, ⟨?_⟩⟩
                · rw [tot_snoc, HXA.out.1]
                  have h1 := HXA.out.2.1
                  omega
                · have h := (HS13.out.putS ts2).putZ
                  have e1 : (T ++ [xv]).sum = ts2 := by rw [sum_snoc, HXA.out.2.2]; exact HTS.out.1
                  have e2 : 4611686018427387904 - tot (T ++ [xv]) = l2 := by
                    rw [tot_snoc, HXA.out.1]
                    have h1 := HXA.out.2.1
                    have h2 := HL2.out
                    omega
                  rw [e1, e2]
                  exact h
        · have hje : j = L.length := by omega
          subst hje
          have HTC := Aside0.mk (show T = CK from by rw [← HT.out.1, ← HCK.out, List.take_length])
          obtain ⟨ts, hts⟩ : ∃ ts, T.sum = ts := ⟨_, rfl⟩
          have HTS := Aside0.mk hts
          have u0 : World.cell? wr ⟨wo.heap.size, 0, none⟩ = some (.int .i64 ts) := by have h := blk2_c0 HS.out.wb; rw [hts] at h; exact h
          have u1 := blk2_c1 HS.out.wb
          have HO4 := Aside0.mk (HO.out.step HS.out.bel)
          clear hts hx
          go_wp2_with (at_builtin; (refine app_d (w := wr) w1.heap.size (fun k => w1.heap.size < k) rfl (.tmp 108) (.tmp 110) rfl (.slice As k cs) (dW (SS.take k)) ⟨ts, 0⟩ rfl rfl (fun k hk => by have := (Array.getElem?_eq_some_iff.1 HO4.out.blk).1; omega) HO4.out.row (Below.refl _ _) HO4.out.bel.size (by rw [HLK.out]; omega) ?_); intro v1 w8 HV8 HB8 HG8; obtain ⟨A9', c9', rfl⟩ := Kd.R_slice HV8.out; have hbk := HO4.out.at2 HG8.out.1; rw [HG.out] at hbk; have p8 := (blk3_c hbk).2.2; have p9 := blk_fr (i := 2) hbk; have HP8 := Aside0.mk (HO4.out.push HG8.out.1 HV8.out); clear hbk)
          go_roundw
          case measure => simp [intOf]; omega
          case rel =>
            refine ⟨k + 1, .slice A9' ((dW (SS.take k)).length + 1) c9', by omega, by go_num, ⟨fun l hl => ?_⟩, ⟨?_⟩⟩
            · rw [HPG.out] at hl
              rcases List.mem_append.1 hl with hl | hl
              · exact HPK.out l hl
              · rw [List.mem_singleton] at hl; rw [hl, ← HTC.out]; exact HT.out.2
            · have h := HP8.out
              rw [List.length_append] at h
              rw [HSG.out, ← HTC.out, HTS.out, dW_snoc, ← HG.out]
              exact h
    · have hke : k = R.length := by omega
      subst hke
      have HPE := Aside0.mk (show PT.take R.length = PT from List.take_of_length_le (by rw [HPT.out.2.1]; exact Nat.le_refl _))
      have HSE2 := Aside0.mk (show SS.take R.length = SS from List.take_of_length_le (by rw [HSSL.out]; exact Nat.le_refl _))
      rw [HPE.out] at HPK
      rw [HSE2.out] at HO HLK
      have hB9 := HO.out.bel
      have hz9 := (hB9.block _ (Array.getElem?_eq_some_iff.1 HW1.out.2.2.1).1).trans HW1.out.2.2.1
      have HB9 := Aside0.mk (below_then HW1.out.1 HW1.out.1.size hB9)
      obtain ⟨⟨p0, p1⟩, ⟨p2, p3⟩, ⟨p4, p5⟩⟩ := blk3_put hz9 (.slice A2 on.length c2) (.slice A3 R.length c3) (.slice As R.length cs)
      obtain ⟨r0, r1, r2⟩ := blk3_c (blk3_three hz9 (.slice A2 on.length c2) (.slice A3 R.length c3) (.slice As R.length cs))
      clear hB9 hz9
      go_wp2
      refine bodyPost_ret (v := .tuple #[.agg #[.slice A2 on.length c2, .slice A3 R.length c3, .slice As R.length cs], .bool true]) (by simp [results, Tryz.results23, go_sem, r0, r1, r2]) rfl ?_
      have h2 := H0.out.2.2.2
      have h3 := HM1.out.2.size
      have hlo : w.heap.size + 1 < W0.heap.size := by omega
      have hM5 := (((HM1.out.1.below HO.out.bel).far (p := ⟨w.heap.size + 1, 0, none⟩) hlo (.slice A2 on.length c2)).far (p := ⟨w.heap.size + 1, 1, none⟩) hlo (.slice A3 R.length c3)).far (p := ⟨w.heap.size + 1, 2, none⟩) hlo (.slice As R.length cs)
      have hrow : ∀ {V : World} (q : Nat) (u v : Value), Kd.R KWt 68 V w1.heap.size (fun k => w1.heap.size < k) v (dW SS) → Kd.R KWt 68 (V.setCell ⟨w.heap.size + 1, q, none⟩ u) w1.heap.size (fun k => w1.heap.size < k) v (dW SS) := fun q u v h => Kd.R_far h (p := ⟨w.heap.size + 1, q, none⟩) (fun k hk => by show k ≠ w.heap.size + 1; omega) u
      have hR5 := hrow 2 (.slice As R.length cs) _ (hrow 1 (.slice A3 R.length c3) _ (hrow 0 (.slice A2 on.length c2) _ HO.out.row))
      have hC5 := (Kd.R_reads' hR5).2.2
      rw [HLK.out] at hC5
      refine ⟨A2, c2, A3, c3, As, cs, ((HB9.out.setCell (p := ⟨w.heap.size + 1, 0, none⟩) (Nat.le_succ _) _).setCell (p := ⟨w.heap.size + 1, 1, none⟩) (Nat.le_succ _) _).setCell (p := ⟨w.heap.size + 1, 2, none⟩) (Nat.le_succ _) _, .inl ⟨?_, rfl, RelM.rd' hM5, hC5⟩⟩
      rw [← HOK.out]
      exact decide_eq_true HPK.out
end
end Go.Proofs.YtlmkgghpaaadhaaGreatDoor.G

/- The document's Min of weights, walked. -/
set_option linter.unusedVariables false
set_option linter.unusedSimpArgs false
namespace Go.Proofs.YtlmkgghpaaadhaaGreatDoor.G
open Go.RowKit Go.Proofs.YtlmkgghpaaadhaaGreatDoorW.PrintWords Go.Proofs.YtlmkgghpaaadhaaGreatDoorW.PrintLast Go.Proofs.YtlmkgghpaaadhaaGreatDoorW.PrintMore Go.Proofs.YtlmkgghpaaadhaaGreatDoor.PRefs

/-- The least so far, in a box of two numbers. -/
structure MinSt (wo W : World) (m : Int) : Prop where
  bel : Below wo.heap.size wo W
  wb : W.heap[wo.heap.size]? = some (.cells #[.int .i64 m, .int .i64 0] 68 (0, 0))
theorem MinSt.new (wo : World) : MinSt wo (wo.alloc (.cells #[.int .i64 0, .int .i64 0] 68)) 0 := ⟨below_alloc (Below.refl _ _) _, heap_alloc_new wo _⟩
theorem MinSt.step {wo W W1 : World} {m : Int} (h : MinSt wo W m) (hb : Below W.heap.size W W1) : MinSt wo W1 m :=
  ⟨below_then h.bel h.bel.size hb, (hb.block _ (Array.getElem?_eq_some_iff.1 h.wb).1).trans h.wb⟩
theorem MinSt.put {wo W : World} {m : Int} (h : MinSt wo W m) (y : Int) : MinSt wo ((W.setCell ⟨wo.heap.size, 0, none⟩ (.int .i64 y)).setCell ⟨wo.heap.size, 1, none⟩ (.int .i64 0)) y :=
  ⟨(h.bel.setCell (p := ⟨wo.heap.size, 0, none⟩) (Nat.le_refl _) _).setCell (p := ⟨wo.heap.size, 1, none⟩) (Nat.le_refl _) _, blk2_s1 (blk2_s0 h.wb _) _⟩
theorem least_snoc (T : List Int) (x : Int) : least (T ++ [x]) = if T = [] ∨ x < least T then x else least T := by
  cases T with
  | nil => simp [least]
  | cons y T =>
    show (T ++ [x]).foldl min y = _
    rw [List.foldl_append]
    show min (least (y :: T)) x = _
    by_cases h : x < least (y :: T)
    · rw [if_pos (.inr h)]; omega
    · rw [if_neg (fun h' => h'.elim (fun e => by cases e) h)]; omega
/-- What the document's Min leaves. -/
def MinTo (w w' : World) (e : Ending) (on : List Int) (R : List (List Int)) (S : List WtS) : Prop :=
  ∃ A c A' c' A4 c4, e = .returned (.agg #[.slice A on.length c, .slice A' R.length c', .slice A4 R.length c4]) ∧ RelRd w' A c on A' c' R ∧ Kd.C KWt w' A4 R.length S ∧ Below w.heap.size w w'
section
variable {A : Option Addr} {c : Nat} {sc : List Int} {A' : Option Addr} {c' : Nat} {L : List (List Int)} {A4 : Option Addr} {c4 : Nat} {ws : List Int} {Av : Option Addr} {cv : Nat} {vars : List Int} {w : World}
set_option maxHeartbeats 8000000 in
set_option maxRecDepth 100000 in
theorem refmin_any (h : RelRd w A c sc A' c' L) (hD : Kd.C KWt w A4 L.length (dW ws)) (hw : ws.length = L.length) (hr : RightP sc L) (hm : sc.length ≤ 1000000) (hm1 : L.length ≤ 1000000) (hv : Kd.C KI w Av vars.length vars)
    {on : List Int} {R : List (List Int)} (hP : projRel sc L vars = (on, R)) :
    Calls Tryz.prog 27 #[.agg #[.slice A sc.length c, .slice A' L.length c', .slice A4 L.length c4], .slice Av vars.length cv] w fun e w' => MinTo w w' e on R (dW ((partedTo ⟨sc, L, ws⟩ on R).map least)) := by
  have hon : on = onto sc vars := (Prod.mk.inj hP).1.symm
  have hRc : R = cutRows sc L on := by rw [hon]; exact (Prod.mk.inj hP).2.symm
  have hRu : Pl.Up R := by rw [hRc]; exact cutRows_up _ _ _
  have hRl : R.length ≤ 1000000 := by rw [hRc]; exact Nat.le_trans (cutRows_len _ _ _) hm1
  have hor : Rise on := by rw [hon, onto_eq _ _ hr.1.1]; exact Rise.filter hr.1.1 _
  have hos : ∀ v ∈ on, v ∈ sc := fun v hv => by rw [hon, onto_eq _ _ hr.1.1] at hv; exact memF hv
  have hRx : ∀ x ∈ R, x.length = on.length := by rw [hRc]; exact cut_row sc L on hr.2.1 hos
  have HP := Aside0.mk hP
  have HRR := Aside0.mk (And.intro h (And.intro hD (And.intro hw (And.intro trivial hr))))
  have HQ := Aside0.mk (And.intro hRu (And.intro hor (And.intro hos hRx)))
  have HVV := Aside0.mk hv
  obtain ⟨PT, hPT⟩ : ∃ PT, partedTo ⟨sc, L, ws⟩ on R = PT := ⟨_, rfl⟩
  have hPTl : PT.length = R.length := by rw [← hPT]; simp [partedTo]
  obtain ⟨SS, hSS⟩ : ∃ SS, PT.map least = SS := ⟨_, rfl⟩
  have HPT := Aside0.mk (And.intro hPT (And.intro hPTl hSS))
  have HSSL := Aside0.mk (show SS.length = R.length from by rw [← hSS, List.length_map, hPTl])
  rw [hPT, hSS]
  clear hSS
  obtain ⟨W0, hW0⟩ : ∃ W0, (w.alloc (.cells #[.slice A sc.length c, .slice A' L.length c', .slice A4 L.length c4] 34)).alloc (.cells #[.slice none 0 0, .slice none 0 0, .slice none 0 0] 34) = W0 := ⟨_, rfl⟩
  have hb0 : Below w.heap.size w W0 := by rw [← hW0]; exact below_alloc (below_alloc (Below.refl _ _) _) _
  have hk0 : W0.heap[w.heap.size]? = some (.cells #[.slice A sc.length c, .slice A' L.length c', .slice A4 L.length c4] 34 (0, 0)) := by rw [← hW0]; exact blk_two1 _ _ _
  have hz0 : W0.heap[w.heap.size + 1]? = some (.cells #[.slice none 0 0, .slice none 0 0, .slice none 0 0] 34 (0, 0)) := by rw [← hW0]; exact blk_two2 _ _ _
  have hs0 : W0.heap.size = w.heap.size + 2 := by rw [← hW0]; simp
  have H0 := Aside0.mk (And.intro hb0 (And.intro hk0 (And.intro hz0 hs0)))
  obtain ⟨q0, q1, q2⟩ := blk3_c hk0
  clear hon hRc hRu hor hos hRx hP h hD hw hr hv hPT hPTl hb0 hk0 hz0 hs0
  go_enter Tryz.func27, Tryz.ntmps27
  go_upto_block 0 with (go_at_call 47; refine (refproject_m (HRR.out.1.step H0.out.1) HRR.out.2.2.2.2.1.1 (by omega) (by omega) (Kd.C_below HVV.out H0.out.1) HP.out).mono ?_; rintro e w1 ⟨A2, c2, A3, c3, rfl, hM, hb⟩; have HM1 := Aside0.mk (And.intro hM hb); clear hM hb)
  clear hW0 q0 q1 q2
  have HWO := Aside0.mk (WOutD.new w1 (.slice A2 on.length c2) (.slice A3 R.length c3))
  generalize w1.alloc (.cells #[.slice A2 on.length c2, .slice A3 R.length c3, .slice none 0 0] 34) = W5 at HWO ⊢
  have HW1 := Aside0.mk (show Below w.heap.size w w1 ∧ w1.heap[w.heap.size]? = some (.cells #[.slice A sc.length c, .slice A' L.length c', .slice A4 L.length c4] 34 (0, 0)) ∧ w1.heap[w.heap.size + 1]? = some (.cells #[.slice none 0 0, .slice none 0 0, .slice none 0 0] 34 (0, 0)) ∧ w.heap.size + 2 ≤ w1.heap.size from
    ⟨below_then H0.out.1 H0.out.1.size HM1.out.2, (HM1.out.2.block _ (Array.getElem?_eq_some_iff.1 H0.out.2.1).1).trans H0.out.2.1, (HM1.out.2.block _ (Array.getElem?_eq_some_iff.1 H0.out.2.2.1).1).trans H0.out.2.2.1, by have h1 := HM1.out.2.size; have h2 := H0.out.2.2.2; omega⟩)
  have HRD := Aside0.mk (show RelRd w1 A2 c2 on A3 c3 R from RelM.rd' HM1.out.1)
  obtain ⟨g, hg⟩ : ∃ g, w1.heap.size = g := ⟨_, rfl⟩
  have HG := Aside0.mk hg
  rw [hg]
  clear hg
  go_wp2_with fail
  go_loopw [6] (fun i W => ∃ (k : Nat) (s : Value), k ≤ R.length ∧ i = .int .i64 k ∧ Aside0 (WOutD w1 (.slice A2 on.length c2) (.slice A3 R.length c3) s (dW (SS.take k)) W)) (fun i _ => R.length - (intOf i).toNat)
  case atStart => exact ⟨0, _, Nat.zero_le _, rfl, HWO⟩
  case round =>
    clear HWO
    obtain ⟨k, s, hk, rfl, HO⟩ := hrel
    obtain ⟨As, cs, rfl⟩ := Kd.R_slice HO.out.row
    have hlk : (dW (SS.take k)).length = k := by rw [dW_len, List.length_take, HSSL.out]; omega
    have HLK := Aside0.mk hlk
    rw [hlk] at HO
    have hbo := HO.out.blk
    rw [HG.out] at hbo
    obtain ⟨s0, s1, s2⟩ := blk3_c hbo
    clear hbo hlk
    by_cases hlt : k < R.length
    · have hkl : (k : Int) < (R.length : Int) := by omega
      obtain ⟨CK, hCK⟩ : ∃ CK, collect sc L ws on R k = CK := ⟨_, rfl⟩
      have HCK := Aside0.mk hCK
      have HPG := Aside0.mk (show PT.take (k + 1) = PT.take k ++ [CK] from by
        have h1 := parted_get (sc := sc) (L := L) (ws := ws) (on := on) hlt
        rw [HPT.out.1, hCK] at h1
        obtain ⟨h2, h3⟩ := List.getElem?_eq_some_iff.1 h1
        rw [List.take_succ_eq_append_getElem h2, h3])
      have HSG := Aside0.mk (show SS.take (k + 1) = SS.take k ++ [least CK] from by
        rw [← HPT.out.2.2, ← List.map_take, HPG.out, List.map_append, List.map_take]; rfl)
      clear hCK
      obtain ⟨adR, Bx, cx, hA3, hx, hlx, hcx⟩ := at_row HRD.out.rows HO.out.bel k hlt
      subst hA3
      have HRX := Aside0.mk (show (R.getD k []).length = on.length from HQ.out.2.2.2 _ (by rw [getD_get _ _ hlt]; exact List.getElem_mem hlt))
      obtain ⟨x, hxe⟩ : ∃ x, R.getD k [] = x := ⟨_, rfl⟩
      rw [HRX.out] at hx
      rw [hxe] at hcx HRX
      have HX := Aside0.mk (And.intro hcx (And.intro hx hxe))
      have HSS := Aside0.mk (And.intro s0 (And.intro s1 s2))
      clear hcx hlx hxe hx
      go_upto_block 2 with fail
      rename World => wo
      have HSN := Aside0.mk (MinSt.new wo)
      generalize wo.alloc (.cells #[.int .i64 0, .int .i64 0] 68) = W6 at HSN ⊢
      clear s0 s1 s2
      go_wp2_with fail
      go_loopw [8, 9] (fun b i W => ∃ (j : Nat) (T : List Int) (v : Bool), j ≤ L.length ∧ b = .bool v ∧ i = .int .i64 j ∧ Aside0 (collect sc (L.take j) ws on R k = T ∧ decide (T ≠ []) = v) ∧ Aside0 (MinSt wo W (least T))) (fun _ i _ => L.length - (intOf i).toNat)
      case atStart => exact ⟨0, [], false, Nat.zero_le _, rfl, rfl, ⟨by simp [collect], by simp⟩, HSN⟩
      case round =>
        clear HSN
        obtain ⟨j, T, v, hj, rfl, rfl, HT, HS⟩ := hrel
        obtain ⟨m, hm⟩ : ∃ m, least T = m := ⟨_, rfl⟩
        have HMM := Aside0.mk hm
        rw [hm] at HS
        clear hm
        have s0 := cell_below HS.out.bel HSS.out.1
        have s1 := cell_below HS.out.bel HSS.out.2.1
        have s2 := cell_below HS.out.bel HSS.out.2.2
        have hx := cell_below HS.out.bel HX.out.2.1
        have hB1 := below_then HO.out.bel HO.out.bel.size HS.out.bel
        obtain ⟨q0, q1, q2⟩ := blk3_c ((hB1.block _ (Array.getElem?_eq_some_iff.1 HW1.out.2.1).1).trans HW1.out.2.1)
        have HB1 := Aside0.mk (And.intro hB1 (below_then HW1.out.1 HW1.out.1.size hB1))
        clear hB1
        by_cases hjt : j < L.length
        · have hjl : (j : Int) < (L.length : Int) := by omega
          obtain ⟨adL, By, cy, hA', hy, hly, hcy⟩ := at_row HRR.out.1.rows HB1.out.2 j hjt
          subst hA'
          have HLY := Aside0.mk (show (L.getD j []).length = sc.length from HRR.out.2.2.2.2.2.1 _ (by rw [getD_get _ _ hjt]; exact List.getElem_mem hjt))
          obtain ⟨y, hye⟩ : ∃ y, L.getD j [] = y := ⟨_, rfl⟩
          rw [HLY.out] at hy
          rw [hye] at hcy HLY
          obtain ⟨f, hf⟩ : ∃ f, fits on sc x y = f := ⟨_, rfl⟩
          have HF := Aside0.mk (And.intro hf (fits_cut HRR.out.2.2.2.2.1.1 HQ.out.2.1 HQ.out.2.2.1 HRX.out HLY.out))
          have HY := Aside0.mk (And.intro hcy hye)
          clear hcy hly hye hf
          have HC1 := Aside0.mk (And.intro (Kd.C_below HRD.out.row (below_then HO.out.bel HO.out.bel.size HS.out.bel)) (And.intro (Kd.C_below HX.out.1 HS.out.bel) (Kd.C_below HRR.out.1.row HB1.out.2)))
          cases f with
          | false =>
            have HCO := Aside0.mk (collect_out (sc := sc) (ws := ws) (on := on) HQ.out.1 hjt HRR.out.2.2.1 hlt (by rw [HY.out.2, HX.out.2.2]; intro e; have h1 := HF.out.2.2 e; rw [HF.out.1] at h1; cases h1))
            go_upto_region 10 with fail
            go_quiet ((go_at_call 48; exact Calls.quiet_of (fit_q _ HC1.out.1 HC1.out.2.1 HC1.out.2.2 HY.out.1 HQ.out.2.1.nodup HRX.out HLY.out rfl HRX.out rfl HLY.out false HF.out.1)))
            generalize hdr : World.drewN _ _ = wd
            have hbd : Below wr.heap.size wr wd := by rw [← hdr]; exact pw_below_drewN (Below.refl _ _) _
            have HSD := Aside0.mk (HS.out.step hbd)
            clear q0 q1 q2 s0 s1 s2 hx hy hdr hbd
            go_upto_region 11 with fail
            go_quiet (fail)
            go_wp2
            go_roundw
            case rel => exact ⟨j + 1, T, v, by omega, rfl, by go_num, ⟨by rw [HCO.out]; exact HT.out.1, HT.out.2⟩, ⟨by rw [HMM.out]; exact HSD.out.step (pw_below_drewN (Below.refl _ _) _)⟩⟩
            case measure => simp [intOf]; omega
          | true =>
            have HCI := Aside0.mk (collect_in (sc := sc) (ws := ws) (on := on) HQ.out.1 hjt HRR.out.2.2.1 hlt (by rw [HY.out.2, HX.out.2.2]; exact HF.out.2.1 HF.out.1))
            have HWJ := Aside0.mk (show j < ws.length from by rw [HRR.out.2.2.1]; exact hjt)
            obtain ⟨xv, hxv⟩ : ∃ xv, rd ws (j : Int) = xv := ⟨_, rfl⟩
            go_upto_region 10 with fail
            go_quiet ((go_at_call 48; exact Calls.quiet_of (fit_q _ HC1.out.1 HC1.out.2.1 HC1.out.2.2 HY.out.1 HQ.out.2.1.nodup HRX.out HLY.out rfl HRX.out rfl HLY.out true HF.out.1)))
            obtain ⟨adW, hA4, he0, he1⟩ := at_T68 HRR.out.2.1 (j : Int) (by omega) hjl
            subst hA4
            rw [rd_dW HWJ.out, hxv] at he0 he1
            simp only [Int.toNat_natCast] at he0 he1
            generalize hdr : World.drewN _ _ = wd
            have hbd : Below wr.heap.size wr wd := by rw [← hdr]; exact pw_below_drewN (Below.refl _ _) _
            have HSD := Aside0.mk (HS.out.step hbd)
            have HBD := Aside0.mk (below_then HB1.out.2 HB1.out.2.size hbd)
            have x0 := cell_below HBD.out he0
            have x1 := cell_below HBD.out he1
            have y2 := cell_below hbd q2
            have u0 := blk2_c0 HSD.out.wb
            have HXV := Aside0.mk hxv
            have HY2 := Aside0.mk (And.intro x0 (And.intro x1 y2))
            clear q0 q1 q2 s0 s1 s2 hx hy he0 he1 hdr hbd hxv
            have HLS := Aside0.mk (least_snoc T xv)
            by_cases hgo : v = false ∨ xv < m
            · have HGO := Aside0.mk (show T = [] ∨ xv < least T from by
                rw [HMM.out]
                rcases hgo with h | h
                · rw [← HT.out.2] at h
                  exact .inl (by simpa using h)
                · exact .inr h)
              cases v with
              | false =>
                go_upto_region 11 with fail
                go_quiet (fail)
                generalize hdr : World.drewN _ _ = we
                have hbe : Below wd.heap.size wd we := by rw [← hdr]; exact pw_below_drewN (Below.refl _ _) _
                have HSE := Aside0.mk (HSD.out.step hbe)
                have x0 := cell_below hbe HY2.out.1
                have x1 := cell_below hbe HY2.out.2.1
                have y2 := cell_below hbe HY2.out.2.2
                have hs0 := blk2_s0 HSE.out.wb (.int .i64 xv)
                have p0 := blk2_c0 HSE.out.wb
                have p1 := blk_fr (i := 0) HSE.out.wb
                have p2 := blk2_c1 hs0
                have p3 := blk_fr (i := 1) hs0
                clear hs0 hdr hbe u0
                go_wp2
                go_roundw
                case measure => simp [intOf]; omega
                case rel => exact ⟨j + 1, T ++ [xv], true, by omega, rfl, by go_num, ⟨by rw [HCI.out, HT.out.1, HXV.out], by simp⟩, ⟨by rw [HLS.out, if_pos HGO.out]; exact HSE.out.put xv⟩⟩
              | true =>
                have hlt2 : xv < m := hgo.resolve_left (by simp)
                have hg1 : decide (xv < m) = true := decide_eq_true hlt2
                clear hgo hlt2
                go_upto_region 11 with fail
                go_quiet (fail)
                generalize hdr : World.drewN _ _ = we
                have hbe : Below wd.heap.size wd we := by rw [← hdr]; exact pw_below_drewN (Below.refl _ _) _
                have HSE := Aside0.mk (HSD.out.step hbe)
                have x0 := cell_below hbe HY2.out.1
                have x1 := cell_below hbe HY2.out.2.1
                have y2 := cell_below hbe HY2.out.2.2
                have hs0 := blk2_s0 HSE.out.wb (.int .i64 xv)
                have p0 := blk2_c0 HSE.out.wb
                have p1 := blk_fr (i := 0) HSE.out.wb
                have p2 := blk2_c1 hs0
                have p3 := blk_fr (i := 1) hs0
                clear hs0 hdr hbe u0 hg1
                go_wp2
                go_roundw
                case measure => simp [intOf]; omega
                case rel => exact ⟨j + 1, T ++ [xv], true, by omega, rfl, by go_num, ⟨by rw [HCI.out, HT.out.1, HXV.out], by simp⟩, ⟨by rw [HLS.out, if_pos HGO.out]; exact HSE.out.put xv⟩⟩
            · have hv : v = true := by cases v <;> simp_all
              subst hv
              have hg2 : ¬ xv < m := fun h => hgo (.inr h)
              have hg1 : decide (xv < m) = false := decide_eq_false hg2
              have HGO := Aside0.mk (show ¬ (T = [] ∨ xv < least T) from by
                rw [HMM.out]
                rintro (h | h)
                · have h1 := HT.out.2; rw [h] at h1; simp at h1
                · exact hg2 h)
              clear hgo hg2
              go_upto_region 11 with fail
              go_quiet (fail)
              generalize hdr : World.drewN _ _ = we
              have hbe : Below wd.heap.size wd we := by rw [← hdr]; exact pw_below_drewN (Below.refl _ _) _
              have HSE := Aside0.mk (HSD.out.step hbe)
              clear hdr hbe u0 x0 x1 y2 hg1
              go_wp2
              go_roundw
              case measure => simp [intOf]; omega
              case rel => exact ⟨j + 1, T ++ [xv], true, by omega, rfl, by go_num, ⟨by rw [HCI.out, HT.out.1, HXV.out], by simp⟩, ⟨by rw [HLS.out, if_neg (by have h := HGO.out; exact fun h' => h h'), HMM.out]; exact HSE.out⟩⟩
        · have hje : j = L.length := by omega
          subst hje
          have HTC := Aside0.mk (show T = CK from by rw [← HT.out.1, ← HCK.out, List.take_length])
          have u0 := blk2_c0 HS.out.wb
          have u1 := blk2_c1 HS.out.wb
          have HO4 := Aside0.mk (HO.out.step HS.out.bel)
          clear hx
          go_wp2_with (at_builtin; (refine app_d (w := wr) w1.heap.size (fun k => w1.heap.size < k) rfl (.tmp 74) (.tmp 76) rfl (.slice As k cs) (dW (SS.take k)) ⟨m, 0⟩ rfl rfl (fun k hk => by have := (Array.getElem?_eq_some_iff.1 HO4.out.blk).1; omega) HO4.out.row (Below.refl _ _) HO4.out.bel.size (by rw [HLK.out]; omega) ?_); intro v1 w8 HV8 HB8 HG8; obtain ⟨A9', c9', rfl⟩ := Kd.R_slice HV8.out; have hbk := HO4.out.at2 HG8.out.1; rw [HG.out] at hbk; have p8 := (blk3_c hbk).2.2; have p9 := blk_fr (i := 2) hbk; have HP8 := Aside0.mk (HO4.out.push HG8.out.1 HV8.out); clear hbk)
          go_roundw
          case measure => simp [intOf]; omega
          case rel =>
            refine ⟨k + 1, .slice A9' ((dW (SS.take k)).length + 1) c9', by omega, by go_num, ⟨?_⟩⟩
            have h := HP8.out
            rw [List.length_append] at h
            rw [HSG.out, ← HTC.out, HMM.out, dW_snoc, ← HG.out]
            exact h
    · have hke : k = R.length := by omega
      subst hke
      have HSE2 := Aside0.mk (show SS.take R.length = SS from List.take_of_length_le (by rw [HSSL.out]; exact Nat.le_refl _))
      rw [HSE2.out] at HO HLK
      have hB9 := HO.out.bel
      have hz9 := (hB9.block _ (Array.getElem?_eq_some_iff.1 HW1.out.2.2.1).1).trans HW1.out.2.2.1
      have HB9 := Aside0.mk (below_then HW1.out.1 HW1.out.1.size hB9)
      obtain ⟨⟨p0, p1⟩, ⟨p2, p3⟩, ⟨p4, p5⟩⟩ := blk3_put hz9 (.slice A2 on.length c2) (.slice A3 R.length c3) (.slice As R.length cs)
      obtain ⟨r0, r1, r2⟩ := blk3_c (blk3_three hz9 (.slice A2 on.length c2) (.slice A3 R.length c3) (.slice As R.length cs))
      clear hB9 hz9
      go_wp2
      refine bodyPost_ret (v := .agg #[.slice A2 on.length c2, .slice A3 R.length c3, .slice As R.length cs]) (by simp [results, Tryz.results27, go_sem, r0, r1, r2]) rfl ?_
      have h2 := H0.out.2.2.2
      have h3 := HM1.out.2.size
      have hlo : w.heap.size + 1 < W0.heap.size := by omega
      have hM5 := (((HM1.out.1.below HO.out.bel).far (p := ⟨w.heap.size + 1, 0, none⟩) hlo (.slice A2 on.length c2)).far (p := ⟨w.heap.size + 1, 1, none⟩) hlo (.slice A3 R.length c3)).far (p := ⟨w.heap.size + 1, 2, none⟩) hlo (.slice As R.length cs)
      have hrow : ∀ {V : World} (q : Nat) (u v : Value), Kd.R KWt 68 V w1.heap.size (fun k => w1.heap.size < k) v (dW SS) → Kd.R KWt 68 (V.setCell ⟨w.heap.size + 1, q, none⟩ u) w1.heap.size (fun k => w1.heap.size < k) v (dW SS) := fun q u v h => Kd.R_far h (p := ⟨w.heap.size + 1, q, none⟩) (fun k hk => by show k ≠ w.heap.size + 1; omega) u
      have hR5 := hrow 2 (.slice As R.length cs) _ (hrow 1 (.slice A3 R.length c3) _ (hrow 0 (.slice A2 on.length c2) _ HO.out.row))
      have hC5 := (Kd.R_reads' hR5).2.2
      rw [HLK.out] at hC5
      exact ⟨A2, c2, A3, c3, As, cs, rfl, RelM.rd' hM5, hC5, ((HB9.out.setCell (p := ⟨w.heap.size + 1, 0, none⟩) (Nat.le_succ _) _).setCell (p := ⟨w.heap.size + 1, 1, none⟩) (Nat.le_succ _) _).setCell (p := ⟨w.heap.size + 1, 2, none⟩) (Nat.le_succ _) _⟩
end
end Go.Proofs.YtlmkgghpaaadhaaGreatDoor.G

/- weigh: what the law of sums calls. -/
set_option linter.unusedVariables false
set_option linter.unusedSimpArgs false
namespace Go.Proofs.YtlmkgghpaaadhaaGreatDoor.G
open Go.RowKit Go.Proofs.YtlmkgghpaaadhaaGreatDoorW.PrintWords Go.Proofs.YtlmkgghpaaadhaaGreatDoorW.PrintLast Go.Proofs.YtlmkgghpaaadhaaGreatDoorW.PrintMore Go.Proofs.YtlmkgghpaaadhaaGreatDoor.PRefs

theorem limits_any (w : World) : Calls Tryz.prog 13 #[] w fun e w' => e = .returned (.tuple #[.int .i64 4611686018427387904, .int .i64 9007199254740991]) ∧ Below w.heap.size w w' := by
  go_enter Tryz.func13, Tryz.ntmps13
  go_wp2
  go_ret2
  exact ⟨rfl, Below.refl _ _⟩
/-- The document's rows that weigh something, in a box. -/
structure DBx (W : World) (g : Nat) (A : Option Addr) (c n : Nat) (sc : List Int) (A' : Option Addr) (c' n' : Nat) (L : List (List Int)) (A4 : Option Addr) (c4 : Nat) (D : List WtS) : Prop where
  blk : W.heap[g]? = some (.cells #[.slice A n c, .slice A' n' c', .slice A4 n' c4] 34 (0, 0))
  rd : RelRd W A c sc A' c' L
  d : Kd.C KWt W A4 n' D
theorem DBx.step {W W1 : World} {g : Nat} {A : Option Addr} {c n : Nat} {sc : List Int} {A' : Option Addr} {c' n' : Nat} {L : List (List Int)} {A4 : Option Addr} {c4 : Nat} {D : List WtS} (h : DBx W g A c n sc A' c' n' L A4 c4 D) (hb : Below W.heap.size W W1) : DBx W1 g A c n sc A' c' n' L A4 c4 D :=
  ⟨(hb.block _ (Array.getElem?_eq_some_iff.1 h.blk).1).trans h.blk, h.rd.step hb, Kd.C_below h.d hb⟩
theorem DBx.new {w : World} {A : Option Addr} {c n : Nat} {sc : List Int} {A' : Option Addr} {c' n' : Nat} {L : List (List Int)} {A4 : Option Addr} {c4 : Nat} {D : List WtS} (h : RelRd w A c sc A' c' L) (hd : Kd.C KWt w A4 n' D) : DBx (w.alloc (.cells #[.slice A n c, .slice A' n' c', .slice A4 n' c4] 34)) w.heap.size A c n sc A' c' n' L A4 c4 D :=
  ⟨heap_alloc_new w _, h.step (below_alloc (Below.refl _ _) _), Kd.C_below hd (below_alloc (Below.refl _ _) _)⟩
section
variable {w : World} {A : Option Addr} {c : Nat} {sc : List Int} {A' : Option Addr} {c' : Nat} {L : List (List Int)} {Aw : Option Addr} {cw : Nat} {ws : List Int} {n n' m : Nat}
theorem sum_ok {Av : Option Addr} {cv nv : Nat} {vars : List Int} (h : WRd w A c sc A' c' L Aw cw ws) (hn : sc.length = n) (hn' : L.length = n') (hm : ws.length = m) (hs : sc.length ≤ 1000000) (hw : InW ws) (hLl : L.length ≤ 1000000) (hv : Kd.C KI w Av vars.length vars) (hnv : vars.length = nv) (hvl : vars.length ≤ 1000000)
    {on : List Int} {R : List (List Int)} (hP : projRel sc L vars = (on, R)) (ho : on.length ≤ 1000000) (hok : ∀ l ∈ partedTo ⟨sc, L, ws⟩ on R, tot l ≤ 4611686018427387904) {S : List Int} (hS : (partedTo ⟨sc, L, ws⟩ on R).map List.sum = S) {n2 m2 k2 : Nat} (h2 : on.length = n2) (h3 : R.length = m2) (h4 : S.length = k2) :
    Calls Tryz.prog 25 #[.agg #[.slice A n c, .slice A' n' c', .slice Aw m cw], .slice Av nv cv] w fun e w' => ∃ A c A' c' Aw cw, e = .returned (.tuple #[.agg #[.slice A n2 c, .slice A' m2 c', .slice Aw k2 cw], .int .i64 0]) ∧ WMk w' w.heap.size A c A' c' Aw cw ⟨on, R, S⟩ ∧ Below w.heap.size w w' := by
  have hR : R = cutRows sc L on := by
    have h1 : on = onto sc vars := (Prod.mk.inj hP).1.symm
    rw [h1]; exact (Prod.mk.inj hP).2.symm
  subst hS hn hn' hm hnv h2 h3 h4
  refine sum_any (a := ⟨sc, L, ws⟩) (r := ⟨on, R, _⟩) (n := 0) h hw hv hs hLl hvl hP (by rw [hR]; exact ord_up (cutRows_up _ _ _)) ho (by rw [hR]; exact Nat.le_trans (cutRows_len _ _ _) hLl) ?_
  unfold sumTo
  rw [if_pos hok]
theorem sum_no {Av : Option Addr} {cv nv : Nat} {vars : List Int} (h : WRd w A c sc A' c' L Aw cw ws) (hn : sc.length = n) (hn' : L.length = n') (hm : ws.length = m) (hs : sc.length ≤ 1000000) (hw : InW ws) (hLl : L.length ≤ 1000000) (hv : Kd.C KI w Av vars.length vars) (hnv : vars.length = nv) (hvl : vars.length ≤ 1000000)
    {on : List Int} {R : List (List Int)} (hP : projRel sc L vars = (on, R)) (ho : on.length ≤ 1000000) (hok : ¬ ∀ l ∈ partedTo ⟨sc, L, ws⟩ on R, tot l ≤ 4611686018427387904) :
    Calls Tryz.prog 25 #[.agg #[.slice A n c, .slice A' n' c', .slice Aw m cw], .slice Av nv cv] w fun e w' => ∃ A c A' c' Aw cw, e = .returned (.tuple #[.agg #[.slice A 0 c, .slice A' 0 c', .slice Aw 0 cw], .int .i64 11]) ∧ WMk w' w.heap.size A c A' c' Aw cw ⟨[], [], []⟩ ∧ Below w.heap.size w w' := by
  have hR : R = cutRows sc L on := by
    have h1 : on = onto sc vars := (Prod.mk.inj hP).1.symm
    rw [h1]; exact (Prod.mk.inj hP).2.symm
  subst hn hn' hm hnv
  refine sum_any (a := ⟨sc, L, ws⟩) (r := ⟨[], [], []⟩) (n := 11) h hw hv hs hLl hvl hP (by rw [hR]; exact ord_up (cutRows_up _ _ _)) ho (by rw [hR]; exact Nat.le_trans (cutRows_len _ _ _) hLl) ?_
  unfold sumTo
  rw [if_neg hok]
variable {A4 : Option Addr} {c4 : Nat}
theorem dsum_ok {Av : Option Addr} {cv nv : Nat} {vars : List Int} (h : RelRd w A c sc A' c' L) (hD : Kd.C KWt w A4 n' (dW ws)) (hn : sc.length = n) (hn' : L.length = n') (hw : ws.length = L.length) (hin : InW ws) (hr : RightP sc L) (hm : sc.length ≤ 1000000) (hm1 : L.length ≤ 1000000) (hv : Kd.C KI w Av vars.length vars) (hnv : vars.length = nv)
    {on : List Int} {R : List (List Int)} (hP : projRel sc L vars = (on, R)) (hok : ∀ l ∈ partedTo ⟨sc, L, ws⟩ on R, tot l ≤ 4611686018427387904) {S : List Int} (hS : (partedTo ⟨sc, L, ws⟩ on R).map List.sum = S) :
    Calls Tryz.prog 23 #[.agg #[.slice A n c, .slice A' n' c', .slice A4 n' c4], .slice Av nv cv, .int .i64 4611686018427387904] w fun e w' => ∃ A c A' c' A4 c4, e = .returned (.tuple #[.agg #[.slice A on.length c, .slice A' R.length c', .slice A4 R.length c4], .bool true]) ∧ RelRd w' A c on A' c' R ∧ Kd.C KWt w' A4 R.length (dW S) ∧ Below w.heap.size w w' := by
  subst hn hn' hnv hS
  refine (refsum_any h hD hw hin hr hm hm1 hv hP (decide_eq_true hok)).mono ?_
  rintro e w' ⟨A, c, A', c', A4, c4, hb, ⟨_, rfl, h1, h2⟩ | ⟨h0, _⟩⟩
  · exact ⟨A, c, A', c', A4, c4, rfl, h1, h2, hb⟩
  · cases h0
theorem dsum_no {Av : Option Addr} {cv nv : Nat} {vars : List Int} (h : RelRd w A c sc A' c' L) (hD : Kd.C KWt w A4 n' (dW ws)) (hn : sc.length = n) (hn' : L.length = n') (hw : ws.length = L.length) (hin : InW ws) (hr : RightP sc L) (hm : sc.length ≤ 1000000) (hm1 : L.length ≤ 1000000) (hv : Kd.C KI w Av vars.length vars) (hnv : vars.length = nv)
    {on : List Int} {R : List (List Int)} (hP : projRel sc L vars = (on, R)) (hok : ¬ ∀ l ∈ partedTo ⟨sc, L, ws⟩ on R, tot l ≤ 4611686018427387904) :
    Calls Tryz.prog 23 #[.agg #[.slice A n c, .slice A' n' c', .slice A4 n' c4], .slice Av nv cv, .int .i64 4611686018427387904] w fun e w' => e = .returned (.tuple #[.agg #[.slice none 0 0, .slice none 0 0, .slice none 0 0], .bool false]) ∧ Below w.heap.size w w' := by
  subst hn hn' hnv
  refine (refsum_any h hD hw hin hr hm hm1 hv hP (decide_eq_false hok)).mono ?_
  rintro e w' ⟨A, c, A', c', A4, c4, hb, ⟨h0, _⟩ | ⟨_, rfl⟩⟩
  · cases h0
  · exact ⟨rfl, hb⟩
theorem dmin_is {Av : Option Addr} {cv nv : Nat} {vars : List Int} (h : RelRd w A c sc A' c' L) (hD : Kd.C KWt w A4 n' (dW ws)) (hn : sc.length = n) (hn' : L.length = n') (hw : ws.length = L.length) (hr : RightP sc L) (hm : sc.length ≤ 1000000) (hm1 : L.length ≤ 1000000) (hv : Kd.C KI w Av vars.length vars) (hnv : vars.length = nv)
    {on : List Int} {R : List (List Int)} (hP : projRel sc L vars = (on, R)) {S : List Int} (hS : (partedTo ⟨sc, L, ws⟩ on R).map least = S) :
    Calls Tryz.prog 27 #[.agg #[.slice A n c, .slice A' n' c', .slice A4 n' c4], .slice Av nv cv] w fun e w' => ∃ A c A' c' A4 c4, e = .returned (.agg #[.slice A on.length c, .slice A' R.length c', .slice A4 R.length c4]) ∧ RelRd w' A c on A' c' R ∧ Kd.C KWt w' A4 R.length (dW S) ∧ Below w.heap.size w w' := by
  subst hn hn' hnv hS
  exact refmin_any h hD hw hr hm hm1 hv hP
theorem number_dw (h : RelRd w A c sc A' c' L) (h1 : sc.length = n) (h2 : L.length = n') (hD : Kd.C KWt w A4 n' (dW ws)) (hm : L.length ≤ 1000000) (hw : ws.length = L.length) :
    Calls Tryz.prog 16 #[.agg #[.slice A n c, .slice A' n' c', .slice A4 n' c4]] w fun e w' => ∃ Aw cw, e = .returned (.agg #[.slice A n c, .slice A' n' c', .slice Aw n' cw]) ∧ WRd w' A c sc A' c' L Aw cw ws ∧ Below w.heap.size w w' := by
  subst h1 h2
  have hl : (dW ws).length = L.length := by rw [dW_len, hw]
  have hM : (dW ws).map (fun x => x.f0) = ws := by rw [dW, List.map_map]; exact (List.map_congr_left fun _ _ => rfl).trans (List.map_id _)
  have hD' : Kd.C KWt w A4 (dW ws).length (dW ws) := by rw [hl]; exact hD
  have h1 := number_any (A := A) (c := c) (n := sc.length) (A' := A') (c' := c') (n' := L.length) (c4 := c4) hD' (by rw [hl]; exact hm) hM
  rw [hl] at h1
  refine h1.mono ?_
  rintro e w' ⟨Aw, cw, rfl, hR, hb⟩
  have h2 := Kd.R_reads' hR
  refine ⟨Aw, cw, by rw [hw], ⟨h.step hb, h2.2.2, h2.2.1⟩, hb⟩
theorem big_of {sch : List Int} {rows : List (List Int)} {xA : List Int} {s : List Int} (hs : smallS3 sch = s) {R : List (List Int)} (hR : smallRows3 s.length rows = R) {ws : List Int} (hw : (List.range R.length).map (refV 4611686018427387904 xA) = ws) : InW ws ∧ ws.length = R.length ∧ Sm s R := by
  subst hs hR
  refine ⟨fun x hx => ?_, by rw [← hw]; simp, sm_small sch rows⟩
  rw [← hw] at hx
  obtain ⟨i, _, rfl⟩ := List.mem_map.1 hx
  have := clampW_in (most := 4611686018427387904) (v := if i < xA.length then rd xA (i : Int) else 1) (by omega)
  unfold refV
  omega
set_option maxHeartbeats 8000000 in
set_option maxRecDepth 100000 in
/-- Plain weights are the document's. -/
theorem same_yes {B : Option Addr} {d : Nat} {B' : Option Addr} {d' : Nat} {B4 : Option Addr} {d4 : Nat} (h : WRd w A c sc A' c' L Aw cw ws) (h' : RelRd w B d sc B' d' L) (hD : Kd.C KWt w B4 n' (dW ws)) (hn : sc.length = n) (hn' : L.length = n') (hw : ws.length = n') (hs : sc.length ≤ 1000000) (hL : ∀ x ∈ L, x.length ≤ 1000000) (hm1 : L.length ≤ 1000000) :
    Calls Tryz.prog 19 #[.agg #[.slice A n c, .slice A' n' c', .slice Aw n' cw], .agg #[.slice B n d, .slice B' n' d', .slice B4 n' d4]] w fun e w' => e = .returned (.bool true) ∧ Below w.heap.size w w' := by
  subst hn hn'
  have HR := Aside0.mk (And.intro h (And.intro h' (And.intro hD (And.intro hw hL))))
  obtain ⟨W0, hW0⟩ : ∃ W0, (w.alloc (.cells #[.slice A sc.length c, .slice A' L.length c', .slice Aw L.length cw] 37)).alloc (.cells #[.slice B sc.length d, .slice B' L.length d', .slice B4 L.length d4] 34) = W0 := ⟨_, rfl⟩
  have hb0 : Below w.heap.size w W0 := by rw [← hW0]; exact below_alloc (below_alloc (Below.refl _ _) _) _
  have hk0 : W0.heap[w.heap.size]? = some (.cells #[.slice A sc.length c, .slice A' L.length c', .slice Aw L.length cw] 37 (0, 0)) := by rw [← hW0]; exact blk_two1 _ _ _
  have hz0 : W0.heap[w.heap.size + 1]? = some (.cells #[.slice B sc.length d, .slice B' L.length d', .slice B4 L.length d4] 34 (0, 0)) := by rw [← hW0]; exact blk_two2 _ _ _
  have H0 := Aside0.mk (And.intro hb0 (And.intro hk0 hz0))
  obtain ⟨q0, q1, q2⟩ := blk3_c hk0
  obtain ⟨r0, r1, r2⟩ := blk3_c hz0
  clear h h' hD hw hL hb0 hk0 hz0
  go_enter Tryz.func19, Tryz.ntmps19
  go_upto_block 0 with (go_at_call 29; refine (refsame_any (HR.out.1.rel.step H0.out.1) (HR.out.2.1.step H0.out.1) (by omega) (by omega) (fun x hx => by have := HR.out.2.2.2.2 x hx; omega) (fun x hx => by have := HR.out.2.2.2.2 x hx; omega) true (by simp)).mono ?_; rintro e w1 ⟨rfl, hb⟩; have HB1 := Aside0.mk hb; have q2' := cell_below hb q2; have r2' := cell_below hb r2; clear hb q0 q1 q2 r0 r1 r2)
  go_wp2_with fail
  go_loopw [5] (fun i W => ∃ k : Nat, k ≤ L.length ∧ i = .int .i64 k ∧ Aside0 (Below w1.heap.size w1 W)) (fun i _ => L.length - (intOf i).toNat)
  case atStart => exact ⟨0, Nat.zero_le _, rfl, ⟨Below.refl _ _⟩⟩
  case round =>
    obtain ⟨k, hk, rfl, HB⟩ := hrel
    have q2 := cell_below HB.out q2'
    have r2 := cell_below HB.out r2'
    have HBB := Aside0.mk (below_then (below_then H0.out.1 H0.out.1.size HB1.out) (Nat.le_trans H0.out.1.size HB1.out.size) HB.out)
    by_cases hlt : k < L.length
    · have hkl : (k : Int) < (L.length : Int) := by omega
      have hkw : (k : Int) < (ws.length : Int) := by rw [HR.out.2.2.2.1]; omega
      have HKW := Aside0.mk (show k < ws.length from by rw [HR.out.2.2.2.1]; exact hlt)
      obtain ⟨ad, hA, hx⟩ := at_int' HR.out.1.w HBB.out (k : Int) (by omega) hkw
      simp only [Int.toNat_natCast] at hx
      obtain ⟨ad2, hA4, he0, he1⟩ := at_T68 HR.out.2.2.1 (k : Int) (by omega) hkl
      rw [rd_dW HKW.out] at he0
      simp only [Int.toNat_natCast] at he0
      have hy := cell_below HBB.out he0
      subst hA hA4
      obtain ⟨z, hz⟩ : ∃ z, rd ws (k : Int) = z := ⟨_, rfl⟩
      rw [hz] at hx hy
      clear he0 he1 hz hkw q2' r2'
      go_upto_region 6 with fail
      go_quiet (fail)
      go_wp2
      go_roundw
      case measure => simp [intOf]; omega
      case rel => exact ⟨k + 1, by omega, by go_num, ⟨below_then HB.out HB.out.size (pw_below_drewN (Below.refl _ _) _)⟩⟩
    · have hkn : decide ((k : Int) < (L.length : Int)) = false := decide_eq_false (by omega)
      have hkn2 : decide (k < L.length) = false := decide_eq_false (by omega)
      go_wp2
      go_ret
      exact ⟨rfl, HBB.out⟩
end
end Go.Proofs.YtlmkgghpaaadhaaGreatDoor.G
