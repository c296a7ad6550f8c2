/- rel.Same and rel.Has. -/
import Derived.Test.YtlinhcgggfdlpaaCut
import Derived.Test.YtlinhcgggfdlpaaFind
import Derived.Test.YtlinhcgggfdlpaaMerge
set_option linter.unusedVariables false
set_option linter.unusedSimpArgs false
namespace Go.Proofs.Ytlinhcgggfdlpaa.G
open Go.RowKit Go.Proofs.YtlinhcgggfdlpaaW.PrintWords Go.Proofs.YtlinhcgggfdlpaaW.PrintLast Go.Proofs.YtlinhcgggfdlpaaW.PrintMore

theorem eq_take_succ {α : Type} {L0 L1 : List α} {k : Nat} (h0 : k < L0.length) (h1 : k < L1.length) (h : L0.take k = L1.take k) (he : L0[k] = L1[k]) : L0.take (k + 1) = L1.take (k + 1) := by
  rw [List.take_succ_eq_append_getElem h0, List.take_succ_eq_append_getElem h1, h, he]
theorem getD_get (L : List (List Int)) (k : Nat) (h : k < L.length) : L.getD k [] = L[k] := by rw [List.getD_eq_getElem?_getD, List.getElem?_eq_getElem h]; rfl

set_option maxHeartbeats 1000000 in
set_option maxRecDepth 100000 in
theorem equalfunc_any (A0 : Option Addr) (c0 : Nat) (L0 : List (List Int)) (A1 : Option Addr) (c1 : Nat) (L1 : List (List Int)) (w : World) (hr0 : Kd.C KL w A0 L0.length L0) (hr1 : Kd.C KL w A1 L1.length L1) (hm : L0.length ≤ 1000000000) (b : Bool) (hb : decide (L0 = L1) = b) :
    Calls Try.prog 47 #[.slice A0 L0.length c0, .slice A1 L1.length c1, .func (.func 46) #[] #[]] w fun e w' => e = .returned (.bool b) ∧ Drawn0 w w' := by
  have HR0 := Aside0.mk hr0
  have HR1 := Aside0.mk hr1
  have HB := Aside0.mk hb
  clear hr0 hr1 hb
  by_cases hn : L0.length = L1.length
  · have z0 : (((L0.length : Int)) == (L1.length : Int)) = true := by rw [beq_iff_eq]; omega
    have z1 : ((L0.length : Int)) = (L1.length : Int) := by omega
    have HN := Aside0.mk hn
    clear hn
    go_enter Try.func47, Try.ntmps47
    go_wp2
    go_loopw [17] (fun i W => ∃ k : Nat, k ≤ L0.length ∧ i = .int .i64 k ∧ Aside0 (Drawn0 w W ∧ L0.take k = L1.take k)) (fun i _ => L0.length - (intOf i).toNat)
    case atStart => exact ⟨0, Nat.zero_le _, rfl, ⟨Drawn0.refl w, rfl⟩⟩
    case round =>
      obtain ⟨k, hk, rfl, HE⟩ := hrel
      by_cases hlt : k < L0.length
      · have hlt1 : k < L1.length := by have := HN.out; omega
        obtain ⟨ad0, B0, d0, rfl, hx0, _, hc0⟩ := at_row HR0.out HE.out.1.below k hlt
        obtain ⟨ad1, B1, d1, rfl, hx1, _, hc1⟩ := at_row HR1.out HE.out.1.below k hlt1
        have hkl0 : (k : Int) < (L0.length : Int) := by omega
        have hkl1 : (k : Int) < (L1.length : Int) := by omega
        have HK := Aside0.mk (And.intro hlt hlt1)
        have HXC := Aside0.mk (And.intro hc0 hc1)
        have eg := enters_of Try.func46 (by kernel_rfl) rfl
        obtain ⟨x0, hx0e⟩ : ∃ x, x = L0.getD k [] := ⟨_, rfl⟩
        obtain ⟨x1, hx1e⟩ : ∃ x, x = L1.getD k [] := ⟨_, rfl⟩
        rw [← hx0e] at hx0 HXC
        rw [← hx1e] at hx1 HXC
        have HX := Aside0.mk (And.intro hx0e hx1e)
        clear hx0e hx1e hc0 hc1 hlt1
        by_cases he : x0 = x1
        · have hbe := Aside0.mk (decide_eq_true he)
          have HEQ := Aside0.mk he
          clear he
          have hcl := slices_Equal_any B0 d0 x0 B1 d1 x1 wr HXC.out.1 HXC.out.2
          rw [hbe.out] at hcl
          go_wp2_with (go_at_call 46; refine hcl.mono ?_; rintro e w' ⟨rfl, hd⟩; have HD := Aside0.mk (drawn_trans HE.out.1 hd); clear hd)
          go_roundw
          case rel => exact ⟨k + 1, by omega, by go_num, ⟨HD.out, eq_take_succ HK.out.1 HK.out.2 HE.out.2 (by rw [← getD_get _ _ HK.out.1, ← getD_get _ _ HK.out.2, ← HX.out.1, ← HX.out.2]; exact HEQ.out)⟩⟩
          case measure => simp [intOf]; omega
        · have hbe := Aside0.mk (decide_eq_false he)
          have HEQ := Aside0.mk he
          clear he
          have hcl := slices_Equal_any B0 d0 x0 B1 d1 x1 wr HXC.out.1 HXC.out.2
          rw [hbe.out] at hcl
          go_wp2_with (go_at_call 46; refine hcl.mono ?_; rintro e w' ⟨rfl, hd⟩; have HD := Aside0.mk (drawn_trans HE.out.1 hd); clear hd)
          go_ret
          refine ⟨?_, HD.out⟩
          rw [← HB.out, decide_eq_false (fun h => HEQ.out (by rw [HX.out.1, HX.out.2, h]))]; rfl
      · have hke : k = L0.length := by omega
        subst hke
        go_wp2
        go_ret
        refine ⟨?_, HE.out.1⟩
        rw [← HB.out, decide_eq_true (by have h := HE.out.2; rwa [List.take_length, HN.out, List.take_length] at h)]; rfl
  · have z0 : (((L0.length : Int)) == (L1.length : Int)) = false := by rw [beq_eq_false_iff_ne]; omega
    have z1 : ¬ ((L0.length : Int)) = (L1.length : Int) := by omega
    go_enter Try.func47, Try.ntmps47
    go_wp2
    go_ret
    refine ⟨?_, Drawn0.refl _⟩
    rw [← HB.out, decide_eq_false (fun h => hn (by rw [h]))]; rfl

set_option maxHeartbeats 2000000 in
set_option maxRecDepth 100000 in
theorem same_any (A0 : Option Addr) (c0 : Nat) (sa : List Int) (A1 : Option Addr) (c1 : Nat) (La : List (List Int)) (A2 : Option Addr) (c2 : Nat) (sb : List Int) (A3 : Option Addr) (c3 : Nat) (Lb : List (List Int)) (w : World)
    (hr0 : Kd.C KI w A0 sa.length sa) (hr1 : Kd.C KL w A1 La.length La) (hr2 : Kd.C KI w A2 sb.length sb) (hr3 : Kd.C KL w A3 Lb.length Lb) (hm : La.length ≤ 1000000000) (b : Bool) (hb : decide (sa = sb ∧ La = Lb) = b) :
    Calls Try.prog 20 #[.agg #[.slice A0 sa.length c0, .slice A1 La.length c1], .agg #[.slice A2 sb.length c2, .slice A3 Lb.length c3]] w fun e w' => e = .returned (.bool b) ∧ Below w.heap.size w w' := by
  have HR := Aside0.mk (And.intro hr0 (And.intro hr1 (And.intro hr2 hr3)))
  have HB := Aside0.mk hb
  clear hr0 hr1 hr2 hr3 hb
  obtain ⟨W0, hW0⟩ : ∃ W0, (w.alloc (.cells #[.slice A0 sa.length c0, .slice A1 La.length c1] 25)).alloc (.cells #[.slice A2 sb.length c2, .slice A3 Lb.length c3] 25) = W0 := ⟨_, rfl⟩
  have hb0 : Below w.heap.size w W0 := by rw [← hW0]; exact below_alloc (below_alloc (Below.refl _ _) _) _
  have hX0 : W0.heap[w.heap.size + 1]? = some (.cells #[.slice A2 sb.length c2, .slice A3 Lb.length c3] 25 (0, 0)) := by rw [← hW0]; have := heap_alloc_new (w.alloc (.cells #[.slice A0 sa.length c0, .slice A1 La.length c1] 25)) (.cells #[.slice A2 sb.length c2, .slice A3 Lb.length c3] 25); rwa [World.size_alloc] at this
  have hY0 : W0.heap[w.heap.size]? = some (.cells #[.slice A0 sa.length c0, .slice A1 La.length c1] 25 (0, 0)) := by rw [← hW0]; exact (Below.heap_alloc _ _ _ (by simp)).trans (heap_alloc_new w _)
  have HL0 := Aside0.mk (And.intro hb0 (And.intro hX0 hY0))
  have q0 := blk2_c0 hX0
  have q2 := blk2_c0 hY0
  clear hb0 hX0 hY0
  go_enter Try.func20, Try.ntmps20
  by_cases hs : sa = sb
  · have HS := Aside0.mk (decide_eq_true hs)
    have HSE := Aside0.mk hs
    clear hs
    have hcl := slices_Equal_any A0 c0 sa A2 c2 sb W0 (Kd.C_below HR.out.1 HL0.out.1) (Kd.C_below HR.out.2.2.1 HL0.out.1)
    rw [HS.out] at hcl
    have hbb : decide (La = Lb) = b := by rw [← HB.out]; exact decide_eq_decide.2 ⟨fun h => ⟨HSE.out, h⟩, fun h => h.2⟩
    have HBB := Aside0.mk hbb
    clear hbb
    go_wp2_with (first
      | (go_at_call 46; refine hcl.mono ?_; rintro e w1 ⟨rfl, hd⟩; have hbl := hd.below; have hx1 := (hbl.block _ (Array.getElem?_eq_some_iff.1 HL0.out.2.1).1).trans HL0.out.2.1; have hy1 := (hbl.block _ (Array.getElem?_eq_some_iff.1 HL0.out.2.2).1).trans HL0.out.2.2; have q4 := blk2_c1 hx1; have q5 := blk2_c1 hy1; have HD := Aside0.mk (below_then HL0.out.1 HL0.out.1.size hbl); have hcl2 := equalfunc_any A1 c1 La A3 c3 Lb w1 (Kd.C_below HR.out.2.1 HD.out) (Kd.C_below HR.out.2.2.2 HD.out) hm b HBB.out; clear hd hbl hx1 hy1 hcl)
      | (go_at_call 47; refine hcl2.mono ?_; rintro e w2 ⟨rfl, hd⟩; have HD2 := Aside0.mk (below_then HD.out HD.out.size hd.below); clear hd hcl2))
    go_ret
    exact ⟨rfl, HD2.out⟩
  · have HS := Aside0.mk (decide_eq_false hs)
    have HSE := Aside0.mk hs
    clear hs
    have hcl := slices_Equal_any A0 c0 sa A2 c2 sb W0 (Kd.C_below HR.out.1 HL0.out.1) (Kd.C_below HR.out.2.2.1 HL0.out.1)
    rw [HS.out] at hcl
    have hbb : false = b := by rw [← HB.out]; exact (decide_eq_false (fun h => HSE.out h.1)).symm
    have HBB := Aside0.mk hbb
    clear hbb
    go_wp2_with (go_at_call 46; refine hcl.mono ?_; rintro e w1 ⟨rfl, hd⟩; have HD := Aside0.mk (below_then HL0.out.1 HL0.out.1.size hd.below); clear hd)
    go_ret
    exact ⟨by rw [← HBB.out]; rfl, HD.out⟩

set_option maxHeartbeats 2000000 in
set_option maxRecDepth 100000 in
theorem has_any (A0 : Option Addr) (c0 : Nat) (sa : List Int) (A1 : Option Addr) (c1 : Nat) (La : List (List Int)) (A2 : Option Addr) (c2 : Nat) (t : List Int) (w : World)
    (hr1 : Kd.C KL w A1 La.length La) (hr2 : Kd.C KI w A2 t.length t) (hm : La.length ≤ 1000000000) (ho : Ord La) :
    Calls Try.prog 24 #[.agg #[.slice A0 sa.length c0, .slice A1 La.length c1], .slice A2 t.length c2] w fun e w' => e = .returned (.bool (decide (t ∈ La))) ∧ Below w.heap.size w w' := by
  have HR := Aside0.mk (And.intro hr1 hr2)
  have HO := Aside0.mk ho
  clear hr1 hr2 ho
  go_enter Try.func24, Try.ntmps24
  have hb0 : Below w.heap.size w (w.alloc (.cells #[.slice A0 sa.length c0, .slice A1 La.length c1] 25)) := below_alloc (Below.refl _ _) _
  have HB0 := Aside0.mk hb0
  clear hb0
  go_wp2_with (go_at_call 52; refine (tuple_Find_any A1 c1 La A2 c2 t _ (Kd.C_below HR.out.1 HB0.out) (Kd.C_below HR.out.2 HB0.out) hm HO.out).mono ?_; rintro e w1 ⟨rfl, hd⟩; have HD := Aside0.mk (below_then HB0.out HB0.out.size hd.below); clear hd)
  go_ret
  exact ⟨rfl, HD.out⟩
end Go.Proofs.Ytlinhcgggfdlpaa.G
