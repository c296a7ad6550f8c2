/- Proved: for every input the law arboristlaw02.RelTurned returns true and its arguments read as they did. No condition. -/
import Derived.Test.YtlinhcgggfdlpaaRows
import Derived.Test.YtlinhcgggfdlpaaBox
import Derived.Deep.Matrix
import Derived.ProofKit
import Derived.OpenShut
import Derived.WalkKit
import Derived.ShutString
import Derived.ChangeOld
import Derived.Below
set_option linter.unusedVariables false
set_option linter.unusedSimpArgs false
namespace Go.Proofs.Ytlinhcgggfdlpaa.G
open Go.RowKit Go.Proofs.YtlinhcgggfdlpaaW.PrintWords Go.Proofs.YtlinhcgggfdlpaaW.PrintLast Go.Proofs.YtlinhcgggfdlpaaW.PrintMore Go.Proofs.Ytlinhcgggfdlpaa.PRefs
attribute [local go_sem] min2_mn min_two

theorem rev_drop (l : List Int) (j : Nat) (h : j < l.length) : (l.drop j).reverse = (l.drop (j + 1)).reverse ++ [rd l (j : Int)] := by rw [drop_rd l j h, List.reverse_cons]
/-- Each row from where it is on, from the other end, twice. -/
def twos (L : List (List Int)) (k : Nat) : List (List Int) := (L.drop k).reverse.flatMap fun t => [t.reverse, t.reverse]
theorem twos_end (L : List (List Int)) : twos L L.length = [] := by unfold twos; rw [List.drop_length]; rfl
theorem twos_step (L : List (List Int)) (j : Nat) (h : j < L.length) : twos L j = twos L (j + 1) ++ [(L.getD j []).reverse, (L.getD j []).reverse] := by
  unfold twos
  rw [List.drop_eq_getElem_cons h, getD_get _ _ h, List.reverse_cons, List.flatMap_append]
  rfl
theorem twos_mem (L : List (List Int)) (k : Nat) (x : List Int) (h : x ∈ twos L k) : ∃ t ∈ L, x = t.reverse := by
  unfold twos at h
  obtain ⟨t, ht, hx⟩ := List.mem_flatMap.1 h
  refine ⟨t, List.mem_of_mem_drop (List.mem_reverse.1 ht), ?_⟩
  simpa using hx
theorem mem_twos (L : List (List Int)) (x : List Int) : x ∈ twos L 0 ↔ ∃ t ∈ L, x = t.reverse := by
  refine ⟨twos_mem L 0 x, ?_⟩
  rintro ⟨t, ht, rfl⟩
  unfold twos
  exact List.mem_flatMap.2 ⟨t, by simpa using ht, by simp⟩
theorem twos_len (L : List (List Int)) (k : Nat) : (twos L k).length ≤ 2 * L.length := by
  unfold twos
  have h : ∀ M : List (List Int), (M.flatMap fun t => [t.reverse, t.reverse]).length = 2 * M.length := fun M => by
    induction M with
    | nil => rfl
    | cons a M ih => rw [List.flatMap_cons, List.length_append, ih]; simp; omega
  rw [h]; simp; omega
theorem lit_two {W : World} {base : Nat} {A : Option Addr} {c : Nat} {x : List Int} (h : Kd.R KI 3 W base AnyB (.slice A x.length c) x) (hb : base ≤ W.heap.size) : Kd.F KL (W.alloc (.cells #[.slice A x.length c, .slice A x.length c] 22)) (fun k => base ≤ k) (some ⟨W.heap.size, 0, none⟩) 2 [x, x] := by
  have k1 := Kd.R_mono (ok' := fun k => base ≤ k ∧ k ≠ W.heap.size) (Kd.R_bound h) (fun k hk => ⟨hk.2.1, by have := hk.2.2.1; omega⟩)
  have h1 := Kd.R_below k1 (below_alloc (Below.refl _ _) (.cells #[.slice A x.length c, .slice A x.length c] 22))
  have hA : RowsAt (W.alloc (.cells #[.slice A x.length c, .slice A x.length c] 22)) base W.heap.size #[.slice A x.length c, .slice A x.length c] [x, x] :=
    ⟨heap_alloc_new W _, by simp, fun j hj => by
      match j, hj with
      | 0, _ => exact Kd.FK_of_M (base := base) ⟨_, rfl, h1⟩
      | 1, _ => exact Kd.FK_of_M (base := base) ⟨_, rfl, h1⟩⟩
  exact Kd.N_F (RowsAt_N hA hb (by simp [maxLen]))

set_option maxHeartbeats 8000000 in
set_option maxRecDepth 100000 in
theorem relturned_walk (A0 : Option Addr) (c0 : Nat) (sch : List Int) (A1 : Option Addr) (c1 : Nat) (rows : List (List Int)) (w : World) (hr0 : Kd.C KI w A0 sch.length sch) (hc0 : sch.length ≤ c0) (hr1 : Kd.C KL w A1 rows.length rows) (hc1 : rows.length ≤ c1) :
    Calls Try.prog 4 #[.slice A0 sch.length c0, .slice A1 rows.length c1] w fun e w' => e = .returned (.bool true) ∧ Below w.heap.size w w' := by
  have HIN := Aside0.mk (And.intro hr0 hr1)
  have hP := right_small sch rows
  have hz := sz_small sch rows
  have HF := Aside0.mk (Small_f sch rows 4000 (Nat.le_refl _))
  have hL20 := smallRows_len (smallS sch).length rows
  generalize smallRows (smallS sch).length rows = L at *
  generalize smallS sch = SC at *
  have hzs := hz.s
  have hzl := hz.l
  have HP := Aside0.mk hP
  have HT := Aside0.mk (make_turned hP (twos L 0) (mem_twos L))
  have HM := Aside0.mk (make_same hP)
  have HSz : Aside0 (Sz SC.reverse (twos L 0)) := ⟨by simp; omega, by have := twos_len L 0; have := hz.l; have h20 := hL20; omega, fun x hx => by obtain ⟨t, ht, rfl⟩ := twos_mem L 0 x hx; rw [List.length_reverse]; exact hz.x t ht⟩
  clear hP
  clear hr0 hr1
  have hf1 := rel_field1
  go_enter Try.func4, Try.ntmps4
  go_wp2_with (first
    | (have hgd := HB1; clear hgd; go_at_call 19; refine (small_is A0 c0 sch A1 c1 rows _ (Kd.C_below HIN.out.1 HB1.out) hc0 (Kd.C_below HIN.out.2 HB1.out) hc1 HF.out).mono ?_; rintro e w2 ⟨Ar, cr, Dr, dr, rfl, hr2, hb2⟩; have hx2 := below_box hb2 (.cells #[.slice Ar SC.length cr, .slice Dr L.length dr] 25); have HB2 := Aside0.mk (below_then HB1.out HB1.out.size hx2); have Hr2 := Aside0.mk (RelBx.new hr2); have qr0_2 := blk2_c0 Hr2.out.blk; have qr1_2 := blk2_c1 Hr2.out.blk; clear hb2 hr2 hx2)
    | (go_at_call 12; refine (shown_any _).mono ?_; rintro e w1 ⟨rfl, hb1⟩; have HB1 := Aside0.mk hb1; clear hb1))
  have HB3 := HB2
  have Hr3 := Hr2
  clear HB2 Hr2 qr0_2 qr1_2
  generalize (w2.alloc (.cells #[.slice Ar SC.length cr, .slice Dr L.length dr] 25)) = x2 at HB3 Hr3 ⊢
  generalize w2.heap.size = gr at HB3 Hr3 ⊢
  go_loopw [7, 8] (fun v i W => ∃ k : Nat, k ≤ SC.length ∧ i = .int .i64 k ∧ Aside0 (Kd.R KI 3 W x2.heap.size AnyB v (SC.drop k).reverse) ∧ Aside0 (Below x2.heap.size x2 W)) (fun v i _ => (intOf i).toNat)
  case atStart => exact ⟨SC.length, Nat.le_refl _, rfl, ⟨by rw [List.drop_length]; exact Kd.R_nil _ _ _ _ _⟩, ⟨Below.refl _ _⟩⟩
  case round =>
    obtain ⟨k, hk, rfl, HO, HB⟩ := hrel
    rcases k with _ | j
    · rw [show ((0 : Nat) : Int) = 0 from rfl]
      rw [List.drop_zero] at HO
      obtain ⟨As, cs, rfl, hcs, hrs⟩ := Kd.R_reads HO.out
      have HS3 := Aside0.mk (And.intro hcs hrs)
      have hxb := below_then HB3.out HB3.out.size HB.out
      have HB4 := Aside0.mk hxb
      have Hr4 := Aside0.mk (Hr3.out.step HB.out)
      have q0 := blk2_c0 Hr4.out.blk
      have q1 := blk2_c1 Hr4.out.blk
      have hSR : SC.reverse.length = SC.length := List.length_reverse
      generalize SC.reverse = SR at *
      have HSR := Aside0.mk hSR
      clear hSR hcs hrs hxb HO HB HB3 Hr3
      go_wp2_with (fail)
      clear q0 q1
      rename World => x3
      go_loopw [9, 10] (fun v i W => ∃ k : Nat, k ≤ L.length ∧ i = .int .i64 k ∧ Aside0 (Kd.N KL 22 W x3.heap.size (fun k => x3.heap.size ≤ k) v (twos L k)) ∧ Aside0 (Below x3.heap.size x3 W)) (fun v i _ => (intOf i).toNat)
      case atStart => exact ⟨L.length, Nat.le_refl _, rfl, ⟨by rw [twos_end]; exact Kd.N_nil _ _ _ _ _⟩, ⟨Below.refl _ _⟩⟩
      case round =>
        obtain ⟨k, hk, rfl, HO, HB⟩ := hrel
        rcases k with _ | j
        · rw [show ((0 : Nat) : Int) = 0 from rfl]
          obtain ⟨Al, cl, rfl, hcl, hrl⟩ := Kd.N_reads HO.out
          have HB5 := Aside0.mk (below_then HB4.out HB4.out.size HB.out)
          have Hr5 := Aside0.mk (Hr4.out.step HB.out)
          have HL5 := Aside0.mk (RelRd.mk (Kd.C_below HS3.out.2 HB.out) HS3.out.1 hrl hcl)
          have q0 := blk2_c0 Hr5.out.blk
          have q1 := blk2_c1 Hr5.out.blk
          generalize twos L 0 = LL at *
          clear hcl hrl HO HB
          go_wp2_with (first
            | (have hgd := HB8; clear hgd; go_at_call 20; refine (same_is Hb8.out.rd hz Hr8.out.rd true (by simp)).mono ?_; rintro e x9 ⟨rfl, hb⟩; have HB9 := Aside0.mk (below_then HB8.out HB8.out.size hb); clear hb)
            | (have hgd := HB7; clear hgd; go_at_call 20; refine (same_is Ha7.out.rd hz Hr7.out.rd true (by simp)).mono ?_; rintro e x8 ⟨rfl, hb⟩; have HB8 := Aside0.mk (below_then HB7.out HB7.out.size hb); have Hr8 := Aside0.mk (Hr7.out.step hb); have Hb8 := Aside0.mk (Hb7.out.step hb); have q0_8 := blk2_c0 Hr8.out.blk; have q1_8 := blk2_c1 Hr8.out.blk; have qb0_8 := blk2_c0 Hb8.out.blk; have qb1_8 := blk2_c1 Hb8.out.blk; clear hb q0_7 q1_7 qa0_7 qa1_7)
            | (have hgd := HB6; clear hgd; go_at_call 14; refine (make_is Hr6.out.rd hz HM.out.1 HM.out.2).mono ?_; rintro e x7 ⟨Ab, cb, Db, db, rfl, hrb, hb⟩; have hx := below_box hb (.cells #[.slice Ab SC.length cb, .slice Db L.length db] 25); have HB7 := Aside0.mk (below_then HB6.out HB6.out.size hx); have Hr7 := Aside0.mk (Hr6.out.step hx); have Ha7 := Aside0.mk (Ha6.out.step hx); have Hb7 := Aside0.mk (RelBx.new hrb); have q0_7 := blk2_c0 Hr7.out.blk; have q1_7 := blk2_c1 Hr7.out.blk; have qa0_7 := blk2_c0 Ha7.out.blk; have qa1_7 := blk2_c1 Ha7.out.blk; clear hb hx hrb q0_6 q1_6 Hr6 Ha6)
            | (go_at_call 14; refine (make_is HL5.out HSz.out HT.out.1 HT.out.2).mono ?_; rintro e x6 ⟨Aa, ca, Da, da, rfl, hra, hb⟩; have hx := below_box hb (.cells #[.slice Aa SC.length ca, .slice Da L.length da] 25); have HB6 := Aside0.mk (below_then HB5.out HB5.out.size hx); have Hr6 := Aside0.mk (Hr5.out.step hx); have Ha6 := Aside0.mk (RelBx.new hra); have q0_6 := blk2_c0 Hr6.out.blk; have q1_6 := blk2_c1 Hr6.out.blk; clear hb hx hra q0 q1 Hr5))
          all_goals
            go_ret
            exact ⟨rfl, HB9.out⟩
        · rw [show ((j + 1 : Nat) : Int) = (j : Int) + 1 from rfl]
          have hjl : j < L.length := by omega
          have hr := Hr4.out.step HB.out
          obtain ⟨ad, Bx, cb, rfl, hx, hlx, hcx⟩ := at_row hr.rd.rows (Below.refl _ _) j hjl
          have hxl : (L.getD j []).length = SR.length := by rw [getD_get _ _ hjl, HSR.out]; exact HP.out.2.1 _ (List.getElem_mem hjl)
          have hst := twos_step L j hjl
          generalize L.getD j [] = x at *
          have HXL := Aside0.mk hxl
          have hxb : x.length ≤ 1000 := by have := HSR.out; omega
          have HX := Aside0.mk (And.intro hx (And.intro hcx (And.intro hr hst)))
          have hjL : (j : Int) + 1 ≤ (L.length : Int) := by omega
          have hj1 : (0 : Int) < (j : Int) + 1 := by omega
          have hjw : IntKind.i64.wrap (j : Int) = (j : Int) := IntWalk.i64_in _ (by omega)
          clear hx hcx hr hst hxl
          go_wp2_with (fail)
          rename World => x4
          go_loopw [11, 12] (fun v i W => ∃ q : Nat, q ≤ SR.length ∧ i = .int .i64 q ∧ Aside0 (Kd.R KI 3 W x4.heap.size AnyB v (x.drop q).reverse) ∧ Aside0 (Below x4.heap.size x4 W)) (fun v i _ => (intOf i).toNat)
          case atStart => exact ⟨SR.length, Nat.le_refl _, rfl, ⟨by rw [← HXL.out, List.drop_length]; exact R_lit0 x4⟩, ⟨below_alloc (Below.refl _ _) _⟩⟩
          case round =>
            obtain ⟨q, hq, rfl, HI, HC⟩ := hrel
            rcases q with _ | p
            · rw [show ((0 : Nat) : Int) = 0 from rfl]
              rw [List.drop_zero] at HI
              generalize x.reverse = xr at *
              obtain ⟨At, ct, rfl, hct, hrt⟩ := Kd.R_reads HI.out
              have hN0 := Kd.N_below HO.out HC.out
              have hlt9 : ∀ k, x4.heap.size ≤ k → x3.heap.size ≤ k ∧ some k ≠ u9.ownBlock := fun k hk => ⟨Nat.le_trans HB.out.size hk, fun e => by have := Kd.N_lt HO.out k e.symm; omega⟩
              have HQ := Aside0.mk (And.intro hN0 (And.intro hlt9 (And.intro (lit_two HI.out HC.out.size) (below_then HB.out HB.out.size HC.out))))
              have htl := twos_len L (j + 1)
              clear hct hrt hN0 hlt9
              go_wp2_with (at_builtin; refine Kd.N_append_rows KL (w0 := x3) x3.heap.size rfl (.tmp 64) (.tmp 67) 23 22 (.slice none 0 0) 24 rfl Try.underlying23 infoInts rfl (by decide) (by decide) _ (twos L (j + 1)) [xr, xr] _ _ _ (fun k => x3.heap.size ≤ k) (fun k => x4.heap.size ≤ k) rfl rfl (Kd.N_below HQ.out.1 (below_alloc (Below.refl _ _) _)) HQ.out.2.2.1 HQ.out.2.1 (fun k hk => by rw [World.size_alloc] at hk; have h1 := HC.out.size; have h2 := HB.out.size; show x3.heap.size ≤ k; omega) (below_then HQ.out.2.2.2 HQ.out.2.2.2.size (below_alloc (Below.refl _ _) _)) (by rw [World.size_alloc]; have h1 := HC.out.size; have h2 := HB.out.size; omega) (by omega) ?_; intro v2 y2 hN hB hg hat; have HN2 := Aside0.mk hN; have HB2 := Aside0.mk hB; clear hN hB hg hat)
              go_roundw
              case rel => exact ⟨j, by omega, by go_num, by rw [HX.out.2.2.2]; exact HN2, HB2⟩
              case measure => simp [intOf]
            · have hpx : p < x.length := by have := HXL.out; omega
              have hcell := (HC.out.cell (World.block_lt_of_cell? _ _ HX.out.1)).trans HX.out.1
              have hrr := HX.out.2.2.1.step HC.out
              have q0 := blk2_c0 hrr.blk
              have q1 := blk2_c1 hrr.blk
              obtain ⟨ad2, rfl, hy⟩ := at_int' (Kd.C_below HX.out.2.1 HC.out) (Below.refl _ _) (p : Int) (by omega) (by omega)
              rw [Int.toNat_natCast] at hy
              have hpL : (p : Int) + 1 ≤ (SR.length : Int) := by omega
              have hpl : (p : Int) < (x.length : Int) := by omega
              have hp1 : (0 : Int) < (p : Int) + 1 := by omega
              have hpw : IntKind.i64.wrap (p : Int) = (p : Int) := IntWalk.i64_in _ (by omega)
              have hdl : ((x.drop (p + 1)).reverse).length ≤ 1000 := by simp; omega
              have hrev := rev_drop x p hpx
              have HREV := Aside0.mk hrev
              clear hrr hrev
              go_wp2_with (at_builtin; refine app_int (w := x4) x4.heap.size rfl (.tmp 51) (.tmp 62) rfl _ (x.drop (p + 1)).reverse (rd x p) rfl rfl HI HC HC.out.size (by omega) ?_; clear HI HC; intro v1 y2 HI HC HG)
              go_roundw
              case rel => exact ⟨p, by omega, by go_num, by rw [HREV.out]; exact HI, HC⟩
              case measure => simp [intOf]
    · have hjl : j < SC.length := by omega
      have hr := Hr3.out.step HB.out
      have q0 := blk2_c0 hr.blk
      have q1 := blk2_c1 hr.blk
      obtain ⟨ad, rfl, hx⟩ := at_int' hr.rd.row (Below.refl _ _) (j : Int) (by omega) (by omega)
      rw [Int.toNat_natCast] at hx
      have hjL : (j : Int) + 1 ≤ (SC.length : Int) := by omega
      have hjl' : (j : Int) < (SC.length : Int) := by omega
      have hj1 : (0 : Int) < (j : Int) + 1 := by omega
      have hjw : IntKind.i64.wrap (j : Int) = (j : Int) := IntWalk.i64_in _ (by omega)
      have hdl : ((SC.drop (j + 1)).reverse).length ≤ 1000 := by simp; omega
      have HREV := Aside0.mk (rev_drop SC j hjl)
      clear hr
      go_wp2_with (at_builtin; refine app_int (w := x2) x2.heap.size rfl (.tmp 28) (.tmp 35) rfl _ (SC.drop (j + 1)).reverse (rd SC j) rfl rfl HO HB HB.out.size (by omega) ?_; clear HO HB; intro v1 y2 HO HB HG)
      go_roundw
      case rel => exact ⟨j, by omega, by go_num, by rw [HREV.out]; exact HO, HB⟩
      case measure => simp [intOf]
end Go.Proofs.Ytlinhcgggfdlpaa.G

namespace Go.Proofs.Ytlinhcgggfdlpaa.relTurned
open Go.ChangeShapes Go.WideShapes Go.ChangeAt Go.RowKit Go.Proofs.YtlinhcgggfdlpaaW.PrintWords Go.Proofs.YtlinhcgggfdlpaaW.PrintLast Go.Proofs.YtlinhcgggfdlpaaW.PrintMore
set_option linter.unusedVariables false
theorem own : ownKnob Try.prog.godebug = none := by kernel_rfl
theorem laidOut : laidOutB Try.prog = true := by kernel_rfl
set_option maxRecDepth 100000 in
theorem lifted (os : Os) (started : os.Started) (H : Type) (enc : TypeId × Value → H) :
    ReturnsInHanded {} Try.checked os 4 .any (Rows.relTurnedSpec.pre6 enc Try.prog Try.f4 Rows.relTurnedRow.domain false) (Rows.relTurnedSpec.post enc Try.prog Try.f4 false true false false) := by
  refine returnsInHanded_of_change (C := Try.checked) own started (by kernel_rfl) Try.func4
    (ChangeSpec.witness6 (enc := enc) (C := Try.checked) false ⟨#[], #[.slice none 0 0, .slice none 0 0], []⟩ 8 (by kernel_rfl) (by kernel_rfl) (by kernel_rfl) (by kernel_rfl)) ?_
  intro W base args ds gs before hval0 hW hcnd _
  have hval : ∀ (j : Nat) t v, Try.f4.params[j]? = some t → args[j]? = some v → Value.okWide Try.prog W .any base t v := hval0
  have hW' := hW
  obtain ⟨p, q, hA0, hV, rfl, hfz, hnd⟩ := hW
  have hA : DataW.TrodAll enc Try.prog W 0 (fun _ => true) true Try.f4.params.toList args.toList ds p := hA0
  rw [Try.params4] at hA hval
  obtain ⟨v0, vs0, d0, ds0, p0, q0, hargs, rfl, rfl, h0, r0⟩ := trodAll_cons hA
  obtain ⟨v1, vs1, d1, ds1, p1, q1, rfl, rfl, rfl, h1, r1⟩ := trodAll_cons r0
  obtain ⟨rfl, rfl, rfl⟩ := trodAll_nil r1
  obtain rfl : args = #[v0, v1] := by cases args; simp_all
  obtain ⟨rfl, rfl⟩ := trodVars_none hV
  obtain ⟨a0, len0, cap0, rfl⟩ := okWide_slice Try.underlying22 (hval 0 22 v0 rfl rfl)
  obtain ⟨a1, len1, cap1, rfl⟩ := okWide_slice Try.underlying23 (hval 1 23 v1 rfl rfl)
  have k0 := h0
  have lt0 : ∀ x ∈ p0, x.block < W.heap.size := by obtain ⟨m, hm⟩ := k0; exact DataW.trod_lt m _ _ _ hm
  have k1 := h1
  have lt1 : ∀ x ∈ p1, x.block < W.heap.size := by obtain ⟨m, hm⟩ := k1; exact DataW.trod_lt m _ _ _ hm
  obtain ⟨z0, e0, l0, c0⟩ : ∃ xs : List Int, xs.length = len0 ∧ len0 ≤ cap0 ∧ Kd.C G.KI W a0 xs.length xs := by obtain ⟨m, hm⟩ := h0; exact G.in_ints hm
  obtain ⟨z1, e1, l1, c1⟩ : ∃ L : List (List Int), L.length = len1 ∧ len1 ≤ cap1 ∧ Kd.C G.KL W a1 L.length L := by obtain ⟨m, hm⟩ := h1; exact G.in_rows hm
  clear hA0 hval0
  subst e0 e1
  refine (G.relturned_walk a0 cap0 z0 a1 cap1 z1 W c0 l0 c1 l1).mono fun e W' ⟨he, bel⟩ => ?_
  subst he
  exact ⟨_, rfl, _, _, _, [], _, [], hW', trodAll_mk1 (shut_bool Try.underlying4 _), (trodAll_cons_mk (Below.trod laidOut (by kernel_rfl) (of_decide_eq_true (by kernel_rfl)) k0 bel lt0) (trodAll_cons_mk (Below.trod laidOut (by kernel_rfl) (of_decide_eq_true (by kernel_rfl)) k1 bel lt1) trodAll_mk0)), rfl, bel.frame _, fun h => by cases h⟩
theorem over : Rows.relTurnedRow.holds Try.pinned (OpenSpec.ofChange Rows.relTurnedSpec) :=
  OpenClaim.holds_of_wide 4 Try.f4 rfl rfl rfl rfl rfl rfl rfl ⟨rfl, rfl, rfl, rfl, rfl⟩ rfl rfl rfl rfl rfl (by kernel_rfl) Try.func4 (by kernel_rfl)
    (of_decide_eq_true (by kernel_rfl)) (by unfold Func.isWrapper; first | (rw [if_pos (by decide +kernel)]; kernel_rfl) | (rw [if_neg (by decide +kernel)]; exact ⟨rfl, rfl⟩))
    (fun os started H enc _ => lifted os started H enc)
theorem proved : Rows.RelTurnedSaid := over
#print axioms proved
end Go.Proofs.Ytlinhcgggfdlpaa.relTurned
