/- Several texts of this claim in one. -/
import Derived.Test.YtlmkgghpaaadhaaGreatDoorMA
import Derived.Test.YtlmkgghpaaadhaaGreatDoorShelf
import Derived.IntWalk
import Derived.Test.YtlmkgghpaaadhaaGreatDoorMR
import Derived.Test.YtlmkgghpaaadhaaGreatDoorFind
import Derived.Deep.RegionHeld3
import Derived.Test.YtlmkgghpaaadhaaGreatDoorMP
import Derived.Test.YtlmkgghpaaadhaaGreatDoorMG
import Derived.Shelf.Abstract
/- weigh: size, and what is made of two weights. -/
set_option linter.unusedVariables false
set_option linter.unusedSimpArgs false
namespace Go.Proofs.YtlmkgghpaaadhaaGreatDoor.G
open Go.RowKit Go.Proofs.YtlmkgghpaaadhaaGreatDoorW.PrintWords Go.Proofs.YtlmkgghpaaadhaaGreatDoorW.PrintLast Go.Proofs.YtlmkgghpaaadhaaGreatDoorW.PrintMore

set_option maxHeartbeats 1000000 in
theorem wsize_any (n : Int) (h0 : -9223372036854775808 ≤ n) (h1 : n < 9223372036854775808) (w : World) :
    Calls Tryz.prog 38 #[.int .i64 n] w fun e w' => e = .returned (.int .u64 (n.natAbs : Int)) ∧ w = w' := by
  by_cases hn : n < 0
  · go_enter Tryz.func38, Tryz.ntmps38
    go_wp2
    go_ret
    exact ⟨congrArg (fun x => Ending.returned (.int .u64 x)) (show IntKind.u64.wrap (-IntKind.u64.wrap n) = (n.natAbs : Int) by simp only [IntKind.wrap, IntKind.bits, IntKind.signed]; simp; omega), rfl⟩
  · go_enter Tryz.func38, Tryz.ntmps38
    go_wp2
    go_ret
    exact ⟨congrArg (fun x => Ending.returned (.int .u64 x)) (show n = (n.natAbs : Int) by omega), rfl⟩

/-- A weight, or a product, that fits. -/
def fitsN (n : Int) : Bool := decide (n.natAbs ≤ 4611686018427387904)
theorem wrap_add {x y : Int} (hx : x.natAbs ≤ 4611686018427387904) (hy : y.natAbs ≤ 4611686018427387904) :
    (-9223372036854775808 ≤ wrap64 (x + y) ∧ wrap64 (x + y) < 9223372036854775808) ∧ decide (((wrap64 (x + y)).natAbs : Int) ≤ 4611686018427387904) = fitsN (x + y) := by
  have h9 : (x + y < 9223372036854775808 ∧ wrap64 (x + y) = x + y) ∨ (x + y = 9223372036854775808 ∧ wrap64 (x + y) = -9223372036854775808) := by
    by_cases h : x + y = 9223372036854775808
    · exact .inr ⟨h, by rw [h, ← i64_w]; kernel_rfl⟩
    · exact .inl ⟨by omega, Go.IntWalk.wrap64_in _ (by omega)⟩
  refine ⟨by omega, ?_⟩
  unfold fitsN
  rw [decide_eq_decide]
  omega
set_option maxHeartbeats 2000000 in
set_option maxRecDepth 100000 in
theorem wplus_any (x y : Int) (hx : x.natAbs ≤ 4611686018427387904) (hy : y.natAbs ≤ 4611686018427387904) (w : World) :
    Calls Tryz.prog 37 #[.int .i64 x, .int .i64 y] w fun e w' => e = .returned (.tuple #[.int .i64 (wrap64 (x + y)), .bool (fitsN (x + y))]) ∧ w = w' := by
  have HF := Aside0.mk (wrap_add hx hy)
  clear hx hy
  go_enter Tryz.func37, Tryz.ntmps37
  go_wp2_with (go_at_call 38; refine (wsize_any _ HF.out.1.1 HF.out.1.2 _).mono ?_; rintro e w' ⟨rfl, rfl⟩)
  go_ret2
  exact ⟨by rw [← HF.out.2]; first | rfl | (rw [← i64_w]; rfl), rfl⟩

theorem fits_mul (x y : Int) : (x.natAbs * y.natAbs / 18446744073709551616 = 0 ∧ x.natAbs * y.natAbs % 18446744073709551616 ≤ 4611686018427387904) ↔ fitsN (x * y) = true := by
  unfold fitsN
  rw [decide_eq_true_iff, Int.natAbs_mul]
  generalize x.natAbs * y.natAbs = m
  omega
theorem as_int (W : World) (v : Value) : (Instr.typeAssert (.iface 2 v) 20 2 true).run Tryz.prog W = .ok (.tuple #[v, .bool true]) W := by kernel_rfl
theorem as_int1 (W : World) (v : Value) : (Instr.typeAssert (.iface 2 v) 20 2 false).run Tryz.prog W = .ok v W := by kernel_rfl
set_option maxHeartbeats 4000000 in
set_option maxRecDepth 100000 in
theorem wproduct_any (x y : Int) (hx : x.natAbs ≤ 4611686018427387904) (hy : y.natAbs ≤ 4611686018427387904) (w : World) :
    Calls Tryz.prog 36 #[.int .i64 x, .int .i64 y] w fun e w' => e = .returned (.tuple #[.int .i64 (wrap64 (x * y)), .bool (fitsN (x * y))]) ∧ w = w' := by
  have HX := Aside0.mk hx
  have HY := Aside0.mk hy
  have HM := Aside0.mk (fun (W : World) => Tryz.bits_Mul64 x.natAbs y.natAbs (by omega) (by omega) W)
  have ha := fun W => as_int W (.int .i64 x)
  have hb := fun W => as_int1 W (.int .i64 y)
  clear hx hy
  go_enter Tryz.func36, Tryz.ntmps36
  go_wp2_with (first
    | (go_at_call 38; refine (wsize_any _ (by first | (have := HX.out; omega) | (have := HY.out; omega)) (by first | (have := HX.out; omega) | (have := HY.out; omega)) _).mono ?_; rintro e w' ⟨rfl, rfl⟩)
    | (go_at_call 68; refine (HM.out _).mono ?_; rintro e w' ⟨rfl, rfl⟩))
  · go_ret2
    rename_i h
    refine ⟨?_, rfl⟩
    have hf : decide ((x.natAbs : Int) * (y.natAbs : Int) % 18446744073709551616 ≤ 4611686018427387904) = fitsN (x * y) := by
      rw [Bool.eq_iff_iff, decide_eq_true_iff, ← fits_mul]
      generalize hm : x.natAbs * y.natAbs = m
      rw [show (x.natAbs : Int) * (y.natAbs : Int) = (m : Int) by rw [← hm]; simp] at h ⊢
      omega
    show Ending.returned (.tuple #[.int .i64 (wrap64 (x * y)), .bool (decide ((x.natAbs : Int) * (y.natAbs : Int) % 18446744073709551616 ≤ 4611686018427387904))]) = _
    rw [hf]
  · go_ret2
    rename_i h
    refine ⟨?_, rfl⟩
    have hf : fitsN (x * y) = false := by
      rw [Bool.eq_false_iff, Ne, ← fits_mul]
      generalize hm : x.natAbs * y.natAbs = m
      rw [show (x.natAbs : Int) * (y.natAbs : Int) = (m : Int) by rw [← hm]; simp] at h
      omega
    rw [hf]; rfl
end Go.Proofs.YtlmkgghpaaadhaaGreatDoor.G

/- weigh: what a row's cut weighs. -/
set_option linter.unusedVariables false
set_option linter.unusedSimpArgs false
namespace Go.Proofs.YtlmkgghpaaadhaaGreatDoor.G
open Go.RowKit Go.Proofs.YtlmkgghpaaadhaaGreatDoorW.PrintWords Go.Proofs.YtlmkgghpaaadhaaGreatDoorW.PrintLast Go.Proofs.YtlmkgghpaaadhaaGreatDoorW.PrintMore

/-- Rows that weigh something, to be read. -/
structure WRd (W : World) (A : Option Addr) (c : Nat) (sc : List Int) (A' : Option Addr) (c' : Nat) (L : List (List Int)) (Aw : Option Addr) (cw : Nat) (ws : List Int) : Prop where
  rel : RelRd W A c sc A' c' L
  w : Kd.C KI W Aw ws.length ws
  cap : ws.length ≤ cw
theorem WRd.step {W W1 : World} {A : Option Addr} {c : Nat} {sc : List Int} {A' : Option Addr} {c' : Nat} {L : List (List Int)} {Aw : Option Addr} {cw : Nat} {ws : List Int} (h : WRd W A c sc A' c' L Aw cw ws) (hb : Below W.heap.size W W1) : WRd W1 A c sc A' c' L Aw cw ws :=
  ⟨h.rel.step hb, Kd.C_below h.w hb, h.cap⟩
theorem blk3_c {W : World} {g t : Nat} {a b c : Value} (h : W.heap[g]? = some (.cells #[a, b, c] t (0, 0))) : W.cell? ⟨g, 0, none⟩ = some a ∧ W.cell? ⟨g, 1, none⟩ = some b ∧ W.cell? ⟨g, 2, none⟩ = some c :=
  ⟨by rw [cell_of_row W g 0 _ _ _ h]; rfl, by rw [cell_of_row W g 1 _ _ _ h]; rfl, by rw [cell_of_row W g 2 _ _ _ h]; rfl⟩
def weightOf (sc : List Int) (L : List (List Int)) (ws : List Int) (scheme t : List Int) : Int :=
  if pick t (sc.map (idx scheme)) ∈ L ∧ pos L (pick t (sc.map (idx scheme))) < ws.length then rd ws (pos L (pick t (sc.map (idx scheme))) : Int) else 0
set_option maxHeartbeats 8000000 in
set_option maxRecDepth 100000 in
theorem weight_any {A : Option Addr} {c : Nat} {sc : List Int} {A' : Option Addr} {c' : Nat} {L : List (List Int)} {Aw : Option Addr} {cw : Nat} {ws : List Int} {As : Option Addr} {cs : Nat} {scheme : List Int} {At : Option Addr} {ct : Nat} {t : List Int} {w : World}
    (h : WRd w A c sc A' c' L Aw cw ws) (hs : Kd.C KI w As scheme.length scheme) (ht : Kd.C KI w At t.length t) (hm : sc.length ≤ 1000000) (hm1 : L.length ≤ 1000000000) (ho : Ord L) {r : Int} (hr : weightOf sc L ws scheme t = r) :
    Calls Tryz.prog 67 #[.agg #[.slice A sc.length c, .slice A' L.length c', .slice Aw ws.length cw], .slice As scheme.length cs, .slice At t.length ct] w fun e w' => e = .returned (.int .i64 r) ∧ Below w.heap.size w w' := by
  have HR := Aside0.mk (And.intro h (And.intro hs (And.intro ht ho)))
  have HRR := Aside0.mk hr
  have hmk := fun W => run_make_row' (P := Tryz.prog) 22 3 (.int .i64 0) 8 Tryz.underlying22 infoInt rfl .i64 .i64 sc.length (by omega) (by omega) W
  clear h hs ht ho hr
  have hk0 := heap_alloc_new w (.cells #[.slice A sc.length c, .slice A' L.length c', .slice Aw ws.length cw] 37)
  obtain ⟨q0, q1, q2⟩ := blk3_c hk0
  have HK0 := Aside0.mk hk0
  clear hk0
  go_enter Tryz.func67, Tryz.ntmps67
  go_wp2
  clear hmk
  obtain ⟨W0, hW0⟩ : ∃ W0, (w.alloc (.cells #[.slice A sc.length c, .slice A' L.length c', .slice Aw ws.length cw] 37)).alloc (.cells (madeCells #[.int .i64 0] sc.length) 3) = W0 := ⟨_, rfl⟩
  have hb0 : Below w.heap.size w W0 := by rw [← hW0]; exact below_alloc (below_alloc (Below.refl _ _) _) _
  have hI0 : IntsAt W0 (w.heap.size + 1) (madeCells #[.int .i64 0] sc.length) (sc.map (idx scheme)) 0 := ⟨by rw [← hW0]; have := heap_alloc_new (w.alloc (.cells #[.slice A sc.length c, .slice A' L.length c', .slice Aw ws.length cw] 37)) (.cells (madeCells #[.int .i64 0] sc.length) 3); rwa [World.size_alloc] at this, by simp [madeCells], fun j hj => by omega⟩
  have hX0 : W0.heap[w.heap.size]? = some (.cells #[.slice A sc.length c, .slice A' L.length c', .slice Aw ws.length cw] 37 (0, 0)) := by rw [← hW0]; exact (Below.heap_alloc _ _ _ (by simp)).trans HK0.out
  rw [hW0]
  have HL0 := Aside0.mk (And.intro hb0 (And.intro hI0 hX0))
  clear hb0 hI0 hX0 hW0 q0 q1 q2 HK0
  go_loopw [21] (fun i W => ∃ (k : Nat) (cur : Array Value), k ≤ sc.length ∧ i = .int .i64 k ∧ Aside0 (Below w.heap.size w W ∧ IntsAt W (w.heap.size + 1) cur (sc.map (idx scheme)) k ∧ W.heap[w.heap.size]? = some (.cells #[.slice A sc.length c, .slice A' L.length c', .slice Aw ws.length cw] 37 (0, 0)))) (fun i _ => sc.length - (intOf i).toNat)
  case atStart => exact ⟨0, _, Nat.zero_le _, rfl, HL0⟩
  case round =>
    obtain ⟨k, cur, hk, rfl, HL⟩ := hrel
    by_cases hlt : k < sc.length
    · obtain ⟨ad, rfl, hx⟩ := at_int' HR.out.1.rel.row HL.out.1 k (by omega) (by omega)
      simp only [Int.toNat_natCast] at hx
      have hcell := HL.out.2.1.cell k (by simpa using hlt)
      have hfr := HL.out.2.1.frozen k
      have hkl : (k : Int) < (sc.length : Int) := by omega
      have hcl : ∀ x, Calls Tryz.prog 74 #[.slice As scheme.length cs, .int .i64 x] wr fun e w' => e = .returned (.int .i64 (idx scheme x)) ∧ wr = w' := fun x => slices_Index_any As cs scheme x wr (Kd.C_below HR.out.2.1 HL.out.1)
      have hrm := Aside0.mk (rd_map sc (idx scheme) k hlt)
      have hml := Aside0.mk (show k < (sc.map (idx scheme)).length by simpa using hlt)
      go_wp2_with (go_at_call 74; refine (hcl _).mono ?_; rintro e w1 ⟨rfl, rfl⟩)
      go_roundw
      case measure => simp [intOf]; omega
      case rel =>
        refine ⟨k + 1, cur.setIfInBounds k (.int .i64 (idx scheme (rd sc k))), by omega, by go_num, ⟨HL.out.1.setCell (p := ⟨w.heap.size + 1, k, none⟩) (Nat.le_succ _) _, ?_, ?_⟩⟩
        · rw [← hrm.out]; exact HL.out.2.1.push hml.out
        · exact (Below.heap_setCell _ _ _ _ (by simp)).trans HL.out.2.2
    · have hke : k = sc.length := by omega
      subst hke
      obtain ⟨ps, hps⟩ : ∃ ps, sc.map (idx scheme) = ps := ⟨_, rfl⟩
      have hpl : ps.length = sc.length := by rw [← hps, List.length_map]
      have hR := IntsAt.row (base := w.heap.size) (xs := sc.map (idx scheme)) (by simpa using HL.out.2.1) (Nat.le_succ _) (by simpa using (by omega : sc.length ≤ 1000000000))
      rw [hps, hpl] at hR
      have hPC := (Kd.R_reads' hR).2.2
      have e1 : (sc.length : Nat) = ps.length := hpl.symm
      have HPC := Aside0.mk (show Kd.C KI wr (some ⟨w.heap.size + 1, 0, none⟩) ps.length ps from hPC)
      have HPS := Aside0.mk hps
      obtain ⟨q0, q1, q2⟩ := blk3_c HL.out.2.2
      have HSD := Aside0.mk (show wr.drew.cell? ⟨w.heap.size, 1, none⟩ = some (.slice A' L.length c') ∧ Below wr.heap.size wr wr.drew from ⟨q1, below_drew (Below.refl _ _)⟩)
      have HWO := Aside0.mk (show weightOf sc L ws scheme t = if pick t ps ∈ L ∧ pos L (pick t ps) < ws.length then rd ws (pos L (pick t ps) : Int) else 0 from by rw [weightOf, hps])
      obtain ⟨key, hkey⟩ : ∃ key, pick t ps = key := ⟨_, rfl⟩
      obtain ⟨p, hp⟩ : ∃ p, pos L key = p := ⟨_, rfl⟩
      obtain ⟨b, hb⟩ : ∃ b, decide (key ∈ L) = b := ⟨_, rfl⟩
      have HFD := Aside0.mk (fun (W : World) (Ak : Option Addr) (ck : Nat) (h0 : Kd.C KL W A' L.length L) (h1 : Kd.C KI W Ak key.length key) => (show Calls Tryz.prog 75 #[.slice A' L.length c', .slice Ak key.length ck] W fun e w' => e = .returned (.tuple #[.int .i64 (p : Int), .bool b]) ∧ Drawn0 W w' from by rw [← hb, ← hp]; exact tuple_Find_any A' c' L Ak ck key W h0 h1 hm1 HR.out.2.2.2))
      have HPK := Aside0.mk (fun (W : World) (h0 : Kd.C KI W At t.length t) (h1 : Kd.C KI W (some ⟨w.heap.size + 1, 0, none⟩) ps.length ps) => (show Calls Tryz.prog 76 #[.slice At t.length ct, .slice (some ⟨w.heap.size + 1, 0, none⟩) sc.length sc.length] W fun e w' => ∃ v, e = .returned v ∧ Kd.R KI 3 w' W.heap.size AnyB v key ∧ Below W.heap.size W w' from by rw [← hkey, ← e1.symm]; exact tuple_Pick_any At ct t _ _ ps W h0 h1 (by omega)))
      rw [hkey, hp] at HWO
      have HBB := Aside0.mk hb
      clear hR hPC hps hpl e1 hkey hp hb
      go_wp2_with fail
      go_region_held3 (fun W => W.cell? ⟨w.heap.size, 1, none⟩ = some (.slice A' L.length c') ∧ Below wr.heap.size wr W)
        (first | with_reducible exact HS2.out | with_reducible exact HS1.out | with_reducible exact HSD.out)
        (first
          | (have hgd := HS1; clear hgd; go_at_call 75; refine (HFD.out _ _ _ (Kd.C_below HR.out.1.rel.rows HB2.out) HC5.out).mono ?_; rintro e w3 ⟨rfl, hd3⟩; have HB3 := Aside0.mk (below_then HB2.out HB2.out.size hd3.below); have HS2 := Aside0.mk (And.intro ((hd3.below.cell (World.block_lt_of_cell? _ _ HS1.out.1)).trans HS1.out.1) (below_then HS1.out.2 HS1.out.2.size hd3.below)); have HX3 := Aside0.mk ((HS2.out.2.block _ (Array.getElem?_eq_some_iff.1 HL.out.2.2).1).trans HL.out.2.2); clear hd3)
          | (go_at_call 76; refine (HPK.out _ (Kd.C_below HR.out.2.2.1 (below_drew HL.out.1)) (Kd.C_below HPC.out (below_drew (Below.refl _ _)))).mono ?_; rintro e w2 ⟨v2, rfl, hv2, hb2⟩; obtain ⟨A5, c5, rfl, _, hC5⟩ := Kd.R_reads hv2; have HB2 := Aside0.mk (below_then (below_drew HL.out.1) (by exact (below_drew HL.out.1).size) hb2); have HC5 := Aside0.mk hC5; have HS1 := Aside0.mk (And.intro ((hb2.cell (World.block_lt_of_cell? _ _ HSD.out.1)).trans HSD.out.1) (below_then HSD.out.2 HSD.out.2.size hb2)); clear hv2 hb2 hC5))
      obtain ⟨q3, q4, q5⟩ := blk3_c HX3.out
      have hps : (0 : Int) ≤ (p : Int) := by omega
      have hwm : ws.length ≤ 9223372036854775807 := HR.out.1.w.2.1
      cases b with
      | false =>
        go_wp2
        go_ret
        exact ⟨by rw [← HRR.out, HWO.out, if_neg (fun h => of_decide_eq_false HBB.out h.1)]; rfl, HB3.out⟩
      | true =>
        by_cases hpl : p < ws.length
        · have hpi : (p : Int) < (ws.length : Int) := by omega
          obtain ⟨adw, rfl, hxw⟩ := at_int' HR.out.1.w HB3.out (p : Int) (by omega) hpi
          simp only [Int.toNat_natCast] at hxw
          go_wp2
          go_ret
          exact ⟨by rw [← HRR.out, HWO.out, if_pos ⟨of_decide_eq_true HBB.out, hpl⟩]; rfl, HB3.out⟩
        · have hpi : decide ((p : Int) < (ws.length : Int)) = false := decide_eq_false (by omega)
          have hpn : decide (p < ws.length) = false := decide_eq_false (by omega)
          have HPL := Aside0.mk hpl
          clear hpl
          go_wp2
          go_ret
          exact ⟨by rw [← HRR.out, HWO.out, if_neg (fun h => by have := HPL.out; omega)]; rfl, HB3.out⟩
end Go.Proofs.YtlmkgghpaaadhaaGreatDoor.G

/- weigh: rows that go together, and what they weigh. -/
set_option linter.unusedVariables false
set_option linter.unusedSimpArgs false
namespace Go.Proofs.YtlmkgghpaaadhaaGreatDoor.G
open Go.RowKit Go.Proofs.YtlmkgghpaaadhaaGreatDoorW.PrintWords Go.Proofs.YtlmkgghpaaadhaaGreatDoorW.PrintLast Go.Proofs.YtlmkgghpaaadhaaGreatDoorW.PrintMore

theorem infoInt64 : (Tryz.prog.info? 2).map (fun i => (i.zero, i.size, i.bytes)) = some (some (.int .i64 0), 1, 8) := by kernel_rfl
/-- append of one weight, and where the new row lies. -/
theorem app_w {ops : Array Oper} {rest : List Oper} {o : Oper} {a : Act} {Q : Exit → Act → World → Prop} {w W : World} (base : Nat) (ok : Nat → Prop) (hgd : o.guard = none) (s x : Operand) (ho : o.op = .call { callee := .builtin .append, args := #[s, x], argTypes := #[24, 24] })
    (v : Value) (xs : List Int) (y : Int) (hs : a.eval s = v) (hx : a.eval x = .slice (some ⟨W.heap.size, 0, none⟩) 1 1) (hok : ∀ k, W.heap.size ≤ k → ok k)
    (HO : Kd.R KI 2 W base ok v xs) (HB : Below base w W) (hbase : base ≤ W.heap.size) (hl : xs.length < 17592186044416)
    (h : ∀ v1 w1, Aside0 (Kd.R KI 2 w1 base ok v1 (xs ++ [y])) → Aside0 (Below base w w1) → Aside0 (W.grownBy w1 v.ownBlock ∧ (v1.ownBlock = v.ownBlock ∨ ∃ b, v1.ownBlock = some b ∧ W.heap.size ≤ b)) → wpList Tryz.prog ops Q rest (a.put o.dst v1) w1) :
    wpList Tryz.prog ops Q (o :: rest) a (W.alloc (.cells #[.int .i64 y] 2)) :=
  Kd.R_append KI base hgd s x 24 2 (.int .i64 0) 8 ho Tryz.underlying24 infoInt64 rfl (by decide) (by omega) v xs y [.int .i64 y] ok (fun _ => False) hs hx rfl (fun _ hk => hk.elim) hok
    HO HB hbase (by omega) (fun v1 w1 ho hb hg hat => h v1 w1 ⟨ho⟩ ⟨hb⟩ ⟨hg, hat⟩)
theorem blk3_s2 {W : World} {g t : Nat} {a b c : Value} (h : W.heap[g]? = some (.cells #[a, b, c] t (0, 0))) (u : Value) : (W.setCell ⟨g, 2, none⟩ u).heap[g]? = some (.cells #[a, b, u] t (0, 0)) := blk_set1 h 2 u
/-- What is made: two rows that stay, and a row of weights. -/
structure WOut (w4 : World) (a b s : Value) (xs : List Int) (W : World) : Prop where
  bel : Below w4.heap.size w4 W
  blk : W.heap[w4.heap.size]? = some (.cells #[a, b, s] 37 (0, 0))
  row : Kd.R KI 2 W w4.heap.size (fun k => w4.heap.size < k) s xs
theorem WOut.new (w4 : World) (a b : Value) : WOut w4 a b (.slice none 0 0) [] (w4.alloc (.cells #[a, b, .slice none 0 0] 37)) :=
  ⟨below_alloc (Below.refl _ _) _, heap_alloc_new w4 _, Kd.R_nil _ _ _ _ _⟩
theorem WOut.step {w4 W W1 : World} {a b s : Value} {xs : List Int} (h : WOut w4 a b s xs W) (hb : Below W.heap.size W W1) : WOut w4 a b s xs W1 :=
  ⟨below_then h.bel h.bel.size hb, (hb.block _ (Array.getElem?_eq_some_iff.1 h.blk).1).trans h.blk, Kd.R_below h.row hb⟩
theorem WOut.at2 {w4 W w1 : World} {a b s : Value} {xs : List Int} (h : WOut w4 a b s xs W) (hg : W.grownBy w1 s.ownBlock) : w1.heap[w4.heap.size]? = some (.cells #[a, b, s] 37 (0, 0)) :=
  (hg.block _ (Array.getElem?_eq_some_iff.1 h.blk).1 (fun e => by have := h.row.1 _ e.symm; omega)).trans h.blk
theorem WOut.push {w4 W w1 : World} {a b s v1 : Value} {xs ys : List Int} (h : WOut w4 a b s xs W) (hg : W.grownBy w1 s.ownBlock) (hR : Kd.R KI 2 w1 w4.heap.size (fun k => w4.heap.size < k) v1 ys) :
    WOut w4 a b v1 ys (w1.setCell ⟨w4.heap.size, 2, none⟩ v1) :=
  ⟨(pw_below_grown h.bel _ h.bel.size hg (fun k e => Nat.le_of_lt (h.row.1 k e))).setCell (p := ⟨w4.heap.size, 2, none⟩) (Nat.le_refl _) v1, blk3_s2 (h.at2 hg) v1, Kd.R_far hR (p := ⟨w4.heap.size, 2, none⟩) (fun k hk => by show k ≠ w4.heap.size; omega) v1⟩
/-- Weights that may be. -/
def InW (ws : List Int) : Prop := ∀ x ∈ ws, x.natAbs ≤ 4611686018427387904
theorem weightOf_in {sc : List Int} {L : List (List Int)} {ws : List Int} (h : InW ws) (scheme t : List Int) : (weightOf sc L ws scheme t).natAbs ≤ 4611686018427387904 := by
  unfold weightOf
  split
  · rename_i hc
    rw [rd_get _ _ hc.2]; exact h _ (List.getElem_mem hc.2)
  · simp
abbrev WF := Int → Int → Int × Bool
def fTimes : WF := fun x y => (wrap64 (x * y), fitsN (x * y))
def fPlus : WF := fun x y => (wrap64 (x + y), fitsN (x + y))
def wRow (f : WF) (sa : List Int) (La : List (List Int)) (wa : List Int) (sb : List Int) (Lb : List (List Int)) (wb : List Int) (t : List Int) : Int × Bool := f (weightOf sa La wa (uni sa sb) t) (weightOf sb Lb wb (uni sa sb) t)
/-- Relations that weigh something. -/
structure WRel where
  sc : List Int
  L : List (List Int)
  ws : List Int
def joinedTo (f : WF) (a b : WRel) (most : Int) : WRel × Int :=
  if ((joinRows a.sc a.L b.sc b.L).length : Int) ≤ most then
    (if ∀ t ∈ joinRows a.sc a.L b.sc b.L, (wRow f a.sc a.L a.ws b.sc b.L b.ws t).2 = true then (⟨uni a.sc b.sc, joinRows a.sc a.L b.sc b.L, (joinRows a.sc a.L b.sc b.L).map fun t => (wRow f a.sc a.L a.ws b.sc b.L b.ws t).1⟩, 0) else (⟨[], [], []⟩, 11))
  else (⟨[], [], []⟩, 9)
/-- Rows that weigh something, of a call's own. -/
structure WMk (W : World) (base : Nat) (A : Option Addr) (c : Nat) (A' : Option Addr) (c' : Nat) (Aw : Option Addr) (cw : Nat) (r : WRel) : Prop where
  rel : RelM W base (.agg #[.slice A r.sc.length c, .slice A' r.L.length c']) (r.sc, r.L)
  w : Kd.R KI 2 W base (fun k => base ≤ k) (.slice Aw r.ws.length cw) r.ws
theorem WMk.rd {W : World} {base : Nat} {A : Option Addr} {c : Nat} {A' : Option Addr} {c' : Nat} {Aw : Option Addr} {cw : Nat} {r : WRel} (h : WMk W base A c A' c' Aw cw r) : WRd W A c r.sc A' c' r.L Aw cw r.ws :=
  ⟨RelM.rd' h.rel, (Kd.R_reads' h.w).2.2, (Kd.R_reads' h.w).2.1⟩
theorem WMk.lower {W : World} {base base' : Nat} {A : Option Addr} {c : Nat} {A' : Option Addr} {c' : Nat} {Aw : Option Addr} {cw : Nat} {r : WRel} (h : WMk W base A c A' c' Aw cw r) (hb : base' ≤ base) : WMk W base' A c A' c' Aw cw r :=
  ⟨h.rel.lower hb, Kd.R_lower (Kd.R_mono h.w (fun k hk => Nat.le_trans hb hk)) hb⟩
theorem WMk.below {W W1 : World} {base : Nat} {A : Option Addr} {c : Nat} {A' : Option Addr} {c' : Nat} {Aw : Option Addr} {cw : Nat} {r : WRel} (h : WMk W base A c A' c' Aw cw r) (hb : Below W.heap.size W W1) : WMk W1 base A c A' c' Aw cw r :=
  ⟨h.rel.below hb, Kd.R_below h.w hb⟩
theorem WMk.far {W : World} {base : Nat} {A : Option Addr} {c : Nat} {A' : Option Addr} {c' : Nat} {Aw : Option Addr} {cw : Nat} {r : WRel} (h : WMk W base A c A' c' Aw cw r) {p : Addr} (hp : p.block < base) (u : Value) : WMk (W.setCell p u) base A c A' c' Aw cw r :=
  ⟨h.rel.far hp u, Kd.R_far h.w (fun k hk => by have : base ≤ k := hk; omega) u⟩
theorem WMk.none (W : World) (base : Nat) : WMk W base none 0 none 0 none 0 ⟨[], [], []⟩ := ⟨RelM.none_ _ _, Kd.R_nil _ _ _ _ _⟩
/-- A call's answer: rows that weigh something, and an error's number. -/
def WOk (w w' : World) (e : Ending) (r : WRel) (n : Int) : Prop := ∃ A c A' c' Aw cw, e = .returned (.tuple #[.agg #[.slice A r.sc.length c, .slice A' r.L.length c', .slice Aw r.ws.length cw], .int .i64 n]) ∧ WMk w' w.heap.size A c A' c' Aw cw r ∧ Below w.heap.size w w'
def WTo (w w' : World) (e : Ending) (r : WRel) : Prop := ∃ A c A' c' Aw cw, e = .returned (.agg #[.slice A r.sc.length c, .slice A' r.L.length c', .slice Aw r.ws.length cw]) ∧ WMk w' w.heap.size A c A' c' Aw cw r ∧ Below w.heap.size w w'
/-- Three boxes of a call's own. -/
structure Bx3 (w W : World) (a0 a1 a2 b0 b1 b2 : Value) : Prop where
  bel : Below w.heap.size w W
  a : W.heap[w.heap.size]? = some (.cells #[a0, a1, a2] 37 (0, 0))
  b : W.heap[w.heap.size + 1]? = some (.cells #[b0, b1, b2] 37 (0, 0))
  c : ∃ x y z, W.heap[w.heap.size + 1 + 1]? = some (.cells #[x, y, z] 37 (0, 0))
theorem Bx3.new (w : World) (a0 a1 a2 b0 b1 b2 x y z : Value) : Bx3 w (((w.alloc (.cells #[a0, a1, a2] 37)).alloc (.cells #[b0, b1, b2] 37)).alloc (.cells #[x, y, z] 37)) a0 a1 a2 b0 b1 b2 := by
  have h1 := heap_alloc_new w (.cells #[a0, a1, a2] 37)
  have h2 := heap_alloc_new (w.alloc (.cells #[a0, a1, a2] 37)) (.cells #[b0, b1, b2] 37)
  have h3 := heap_alloc_new ((w.alloc (.cells #[a0, a1, a2] 37)).alloc (.cells #[b0, b1, b2] 37)) (.cells #[x, y, z] 37)
  simp only [World.size_alloc] at h2 h3
  exact ⟨below_alloc (below_alloc (below_alloc (Below.refl _ _) _) _) _, (Below.heap_alloc _ _ _ (by simp; omega)).trans ((Below.heap_alloc _ _ _ (by simp)).trans h1), (Below.heap_alloc _ _ _ (by simp)).trans h2, x, y, z, h3⟩
theorem Bx3.step {w W W1 : World} {a0 a1 a2 b0 b1 b2 : Value} (h : Bx3 w W a0 a1 a2 b0 b1 b2) (hb : Below W.heap.size W W1) : Bx3 w W1 a0 a1 a2 b0 b1 b2 :=
  ⟨below_then h.bel h.bel.size hb, (hb.block _ (Array.getElem?_eq_some_iff.1 h.a).1).trans h.a, (hb.block _ (Array.getElem?_eq_some_iff.1 h.b).1).trans h.b, by
    obtain ⟨x, y, z, hc⟩ := h.c
    exact ⟨x, y, z, (hb.block _ (Array.getElem?_eq_some_iff.1 hc).1).trans hc⟩⟩
theorem blk3_three {W : World} {g t : Nat} {a b c : Value} (h : W.heap[g]? = some (.cells #[a, b, c] t (0, 0))) (x y z : Value) : (((W.setCell ⟨g, 0, none⟩ x).setCell ⟨g, 1, none⟩ y).setCell ⟨g, 2, none⟩ z).heap[g]? = some (.cells #[x, y, z] t (0, 0)) :=
  blk_set1 (blk_set1 (blk_set1 h 0 x) 1 y) 2 z
/-- The facts that three stores into a block of three cells ask for. -/
theorem blk3_put {W : World} {g t : Nat} {a b c : Value} (h : W.heap[g]? = some (.cells #[a, b, c] t (0, 0))) (x y z : Value) :
    (W.cell? ⟨g, 0, none⟩ = some a ∧ W.frozen? ⟨g, 0, none⟩ = false) ∧ ((W.setCell ⟨g, 0, none⟩ x).cell? ⟨g, 1, none⟩ = some b ∧ (W.setCell ⟨g, 0, none⟩ x).frozen? ⟨g, 1, none⟩ = false) ∧ (((W.setCell ⟨g, 0, none⟩ x).setCell ⟨g, 1, none⟩ y).cell? ⟨g, 2, none⟩ = some c ∧ ((W.setCell ⟨g, 0, none⟩ x).setCell ⟨g, 1, none⟩ y).frozen? ⟨g, 2, none⟩ = false) := by
  have h1 := blk_set1 h 0 x
  have h2 := blk_set1 h1 1 y
  exact ⟨⟨(blk3_c h).1, blk_fr h⟩, ⟨(blk3_c h1).2.1, blk_fr h1⟩, ⟨(blk3_c h2).2.2, blk_fr h2⟩⟩
theorem C7.step {w1 W W1 : World} {p q r s t u v : Addr} {a b c d e f g : Value} (h : W.cell? p = some a ∧ W.cell? q = some b ∧ W.cell? r = some c ∧ W.cell? s = some d ∧ W.cell? t = some e ∧ W.cell? u = some f ∧ W.cell? v = some g ∧ Below w1.heap.size w1 W) (hb : Below W.heap.size W W1) :
    W1.cell? p = some a ∧ W1.cell? q = some b ∧ W1.cell? r = some c ∧ W1.cell? s = some d ∧ W1.cell? t = some e ∧ W1.cell? u = some f ∧ W1.cell? v = some g ∧ Below w1.heap.size w1 W1 := by
  obtain ⟨h1, h2, h3, h4, h5, h6, h7, h8⟩ := h
  exact ⟨(hb.cell (World.block_lt_of_cell? W _ h1)).trans h1, (hb.cell (World.block_lt_of_cell? W _ h2)).trans h2, (hb.cell (World.block_lt_of_cell? W _ h3)).trans h3, (hb.cell (World.block_lt_of_cell? W _ h4)).trans h4, (hb.cell (World.block_lt_of_cell? W _ h5)).trans h5, (hb.cell (World.block_lt_of_cell? W _ h6)).trans h6, (hb.cell (World.block_lt_of_cell? W _ h7)).trans h7, below_then h8 h8.size hb⟩

theorem ord_of_up {L : List (List Int)} (h : Pl.Up L) : Ord L := List.Pairwise.imp (fun hab => Pl.lt_asymm hab) h
section
variable {A : Option Addr} {c : Nat} {A' : Option Addr} {c' : Nat} {Aw : Option Addr} {cw : Nat} {B : Option Addr} {d : Nat} {B' : Option Addr} {d' : Nat} {Bw : Option Addr} {dw : Nat} {a b : WRel} {w : World}

set_option maxHeartbeats 8000000 in
set_option maxRecDepth 100000 in
theorem joined_times (h : WRd w A c a.sc A' c' a.L Aw cw a.ws) (ht : Rt a.sc a.L) (hw : InW a.ws) (h' : WRd w B d b.sc B' d' b.L Bw dw b.ws) (ht' : Rt b.sc b.L) (hw' : InW b.ws) (hm : a.sc.length ≤ 1000000) (hm' : b.sc.length ≤ 1000000) (most : Int) (htab : Tab w) {r : WRel} {n : Int} (hr : joinedTo fTimes a b most = (r, n)) :
    Calls Tryz.prog 35 #[.agg #[.slice A a.sc.length c, .slice A' a.L.length c', .slice Aw a.ws.length cw], .agg #[.slice B b.sc.length d, .slice B' b.L.length d', .slice Bw b.ws.length dw], .int .i64 most, .func (.func 36) #[] #[]] w fun e w' => WOk w w' e r n := by
  have HR := Aside0.mk (And.intro h (And.intro h' (And.intro ht ht')))
  have HW := Aside0.mk (And.intro hw hw')
  have HT := Aside0.mk htab
  have HRR := Aside0.mk hr
  have hx0 := Bx3.new w (.slice A a.sc.length c) (.slice A' a.L.length c') (.slice Aw a.ws.length cw) (.slice B b.sc.length d) (.slice B' b.L.length d') (.slice Bw b.ws.length dw) (.slice none 0 0) (.slice none 0 0) (.slice none 0 0)
  obtain ⟨W0, hW0⟩ : ∃ W0, ((w.alloc (.cells #[.slice A a.sc.length c, .slice A' a.L.length c', .slice Aw a.ws.length cw] 37)).alloc (.cells #[.slice B b.sc.length d, .slice B' b.L.length d', .slice Bw b.ws.length dw] 37)).alloc (.cells #[.slice none 0 0, .slice none 0 0, .slice none 0 0] 37) = W0 := ⟨_, rfl⟩
  rw [hW0] at hx0
  have hlo : w.heap.size + 1 + 1 < W0.heap.size := by
    obtain ⟨x, y, z, hC⟩ := hx0.c
    exact (Array.getElem?_eq_some_iff.1 hC).1
  have HLO := Aside0.mk hlo
  obtain ⟨q0, q1, q2⟩ := blk3_c hx0.a
  obtain ⟨q3, q4, q5⟩ := blk3_c hx0.b
  have H0 := Aside0.mk hx0
  clear h h' ht ht' hw hw' hr htab hx0 hlo
  obtain ⟨U, hU⟩ : ∃ U, uni a.sc b.sc = U := ⟨_, rfl⟩
  obtain ⟨J, hJ⟩ : ∃ J, joinRows a.sc a.L b.sc b.L = J := ⟨_, rfl⟩
  obtain ⟨F, hF⟩ : ∃ F, wRow fTimes a.sc a.L a.ws b.sc b.L b.ws = F := ⟨_, rfl⟩
  have HJL := Aside0.mk (show J.length ≤ 400000000 from by rw [← hJ]; exact Nat.le_trans (join_len_le _ _ _ _) (Nat.mul_le_mul HR.out.2.2.1.l HR.out.2.2.2.l))
  have HU := Aside0.mk (And.intro hU (And.intro hJ hF))
  have HJT := Aside0.mk (show joinedTo fTimes a b most = if (J.length : Int) ≤ most then (if ∀ t ∈ J, (F t).2 = true then (⟨U, J, J.map fun t => (F t).1⟩, 0) else (⟨[], [], []⟩, 11)) else (⟨[], [], []⟩, 9) from by rw [← hU, ← hJ, ← hF]; rfl)
  clear hU hJ hF
  by_cases hfit : (J.length : Int) ≤ most
  · have HJO := Aside0.mk (fun (W : World) (h : RelRd W A c a.sc A' c' a.L) (h' : RelRd W B d b.sc B' d' b.L) (ht : Tab W) => join_m (r := (U, J)) (n := 0) h HR.out.2.2.1 h' HR.out.2.2.2 most ht (by rw [joinAt, HU.out.2.1, HU.out.1, if_pos hfit]) (by rw [joinEr, HU.out.2.1, if_pos hfit]))
    have HJF := Aside0.mk (show (if ∀ t ∈ J, (F t).2 = true then ((⟨U, J, J.map fun t => (F t).1⟩ : WRel), (0 : Int)) else (⟨[], [], []⟩, 11)) = (r, n) from by rw [← HRR.out, HJT.out, if_pos hfit])
    clear hfit HRR HJT
    go_enter Tryz.func35, Tryz.ntmps35
    go_wp2_with (go_at_call 66; refine (HJO.out _ (HR.out.1.rel.step H0.out.bel) (HR.out.2.1.rel.step H0.out.bel) (HT.out.step H0.out.bel)).mono ?_; rintro e w1 ⟨A2, c2, A3, c3, rfl, hM, hb1⟩; have HM := Aside0.mk hM; have HB1 := Aside0.mk hb1; clear hM hb1)
    clear q0 q1 q2 q3 q4 q5 hW0
    obtain ⟨w4, hw4⟩ : ∃ w4, w1.alloc (.cells #[.slice A2 U.length c2, .slice A3 J.length c3] 31) = w4 := ⟨_, rfl⟩
    have hg4 : w4.heap.size = w1.heap.size + 1 := by rw [← hw4]; simp
    have hr4 : w4.heap[w1.heap.size]? = some (.cells #[.slice A2 U.length c2, .slice A3 J.length c3] 31 (0, 0)) := by rw [← hw4]; exact heap_alloc_new w1 _
    have hb4 : Below w1.heap.size w1 w4 := by rw [← hw4]; exact below_alloc (Below.refl _ _) _
    have H4 := Aside0.mk (And.intro hr4 (And.intro ((H0.out.step HB1.out).step hb4) (HM.out.rd'.step hb4)))
    have HZ4 := Aside0.mk (And.intro (show w.heap.size + 1 + 1 < w4.heap.size from by have := HB1.out.size; have := HLO.out; omega) (show w1.heap.size < w4.heap.size from by omega))
    have HT4 := Aside0.mk ((HT.out.step H0.out.bel).step (below_then HB1.out HB1.out.size hb4))
    have HWO := Aside0.mk (WOut.new w4 (.slice A2 U.length c2) (.slice A3 J.length c3))
    have hJm : J.length ≤ 9223372036854775807 := HM.out.rd'.rows.2.1
    simp only [hw4, ← hg4]
    generalize w4.alloc (.cells #[.slice A2 U.length c2, .slice A3 J.length c3, .slice none 0 0] 37) = W5 at HWO ⊢
    have HB14 := Aside0.mk hb4
    clear hw4 hb4 hr4
    obtain ⟨g, hg⟩ : ∃ g, w4.heap.size = g := ⟨_, rfl⟩
    obtain ⟨g1, hg1⟩ : ∃ g1, w1.heap.size = g1 := ⟨_, rfl⟩
    have HG := Aside0.mk (And.intro hg hg1)
    rw [hg, hg1]
    rw [hg1] at H4
    clear hg hg1 hg4
    go_loopw [35] (fun i W => ∃ (k : Nat) (s : Value) (M : List Int), k ≤ J.length ∧ i = .int .i64 k ∧ Aside0 (∀ t ∈ J.take k, (F t).2 = true) ∧ Aside0 (((J.take k).map fun t => (F t).1) = M) ∧ Aside0 (WOut w4 (.slice A2 U.length c2) (.slice A3 J.length c3) s M W)) (fun i _ => J.length - (intOf i).toNat)
    case atStart => exact ⟨0, _, [], Nat.zero_le _, rfl, ⟨by simp⟩, ⟨rfl⟩, HWO⟩
    case round =>
      clear HWO
      obtain ⟨k, s, M, hk, rfl, HOK, HMM, HO⟩ := hrel
      obtain ⟨As, cs, rfl, hcs, hCs⟩ := Kd.R_reads HO.out.row
      have HCS := Aside0.mk (And.intro hcs hCs)
      clear hcs hCs
      have HBX := Aside0.mk (H4.out.2.1.step HO.out.bel)
      have hbr := (HO.out.bel.block _ (Array.getElem?_eq_some_iff.1 H4.out.1).1).trans H4.out.1
      have hrd := H4.out.2.2.step HO.out.bel
      have HRD := Aside0.mk hrd
      obtain ⟨p0, p1, p2⟩ := blk3_c HBX.out.a
      obtain ⟨p3, p4, p5⟩ := blk3_c HBX.out.b
      have p6 := blk2_c0 hbr
      have p7 := blk2_c1 hbr
      clear hbr hrd
      by_cases hlt : k < J.length
      · have hkl : (k : Int) < (J.length : Int) := by omega
        obtain ⟨ad, Bx, cx, rfl, hx, _, hcx⟩ := at_row HRD.out.rows (Below.refl _ _) k hlt
        have HT1 := Aside0.mk (show (∀ t ∈ J.take (k + 1), (F t).2 = true) ↔ (∀ t ∈ J.take k, (F t).2 = true) ∧ (F (J.getD k [])).2 = true from by
          rw [List.take_succ_eq_append_getElem hlt, getD_get _ _ hlt]
          simp only [List.mem_append, List.mem_singleton]
          exact ⟨fun h => ⟨fun t ht => h t (.inl ht), h _ (.inr rfl)⟩, fun h t ht => ht.elim (h.1 t) (fun e => e ▸ h.2)⟩)
        have HT2 := Aside0.mk (map_take_getD (fun t => (F t).1) J k hlt)
        have HT3 := Aside0.mk (show J.getD k [] ∈ J from by rw [getD_get _ _ hlt]; exact List.getElem_mem hlt)
        obtain ⟨x, hxe⟩ : ∃ x, J.getD k [] = x := ⟨_, rfl⟩
        rw [hxe] at hx hcx HT1 HT2 HT3
        have HCX := Aside0.mk hcx
        obtain ⟨x1, hx1⟩ : ∃ v, weightOf a.sc a.L a.ws U x = v := ⟨_, rfl⟩
        obtain ⟨x2, hx2⟩ : ∃ v, weightOf b.sc b.L b.ws U x = v := ⟨_, rfl⟩
        have HX12 := Aside0.mk (And.intro hx1 (And.intro hx2 (show F x = fTimes x1 x2 from by rw [← HU.out.2.2, wRow, HU.out.1, hx1, hx2])))
        have HIN := Aside0.mk (show x1.natAbs ≤ 4611686018427387904 ∧ x2.natAbs ≤ 4611686018427387904 from ⟨hx1 ▸ weightOf_in HW.out.1 _ _, hx2 ▸ weightOf_in HW.out.2 _ _⟩)
        have hml : M.length ≤ k := by rw [← HMM.out, List.length_map, List.length_take]; omega
        have HLM := Aside0.mk hml
        have HC7 := Aside0.mk (C7.step (w1 := wr) ⟨p0, p1, p2, p3, p4, p5, p6, Below.refl _ _⟩ (below_drew (Below.refl _ _)))
        obtain ⟨y, ok, hyo⟩ : ∃ y ok, fTimes x1 x2 = (y, ok) := ⟨_, _, rfl⟩
        have HFN := Aside0.mk (fun (W : World) => (show Calls Tryz.prog 36 #[.int .i64 x1, .int .i64 x2] W fun e w' => e = .returned (.tuple #[.int .i64 y, .bool ok]) ∧ W = w' from by
          have h := wproduct_any x1 x2 HIN.out.1 HIN.out.2 W
          have e := Prod.mk.inj (show ((fTimes x1 x2).1, (fTimes x1 x2).2) = (y, ok) from hyo)
          rw [← e.1, ← e.2]; exact h))
        have HYO := Aside0.mk (show F x = (y, ok) from by rw [HX12.out.2.2, hyo])
        have eg := enters_of Tryz.func36 (by kernel_rfl) rfl
        clear hcx hxe hx1 hx2 hml hyo
        go_wp2_with fail
        clear p0 p1 p2 p3 p4 p5 p6 p7 hx
        go_region_held3 (fun W => W.cell? ⟨w.heap.size, 0, none⟩ = some (.slice A a.sc.length c) ∧ W.cell? ⟨w.heap.size, 1, none⟩ = some (.slice A' a.L.length c') ∧ W.cell? ⟨w.heap.size, 2, none⟩ = some (.slice Aw a.ws.length cw) ∧ W.cell? ⟨w.heap.size + 1, 0, none⟩ = some (.slice B b.sc.length d) ∧ W.cell? ⟨w.heap.size + 1, 1, none⟩ = some (.slice B' b.L.length d') ∧ W.cell? ⟨w.heap.size + 1, 2, none⟩ = some (.slice Bw b.ws.length dw) ∧ W.cell? ⟨g1, 0, none⟩ = some (.slice A2 U.length c2) ∧ Below wr.heap.size wr W)
          (first | with_reducible exact HS2.out | with_reducible exact HS1.out | with_reducible exact HC7.out)
          (first
            | (have hgd := HS2; clear hgd; go_at_call 36; refine (HFN.out _).mono ?_; rintro e w7 ⟨rfl, rfl⟩)
            | (have hgd := HS1; clear hgd; go_at_call 67; refine (weight_any (HR.out.2.1.step (below_then HBX.out.bel HBX.out.bel.size HS1.out.2.2.2.2.2.2.2)) (Kd.C_below HRD.out.row HS1.out.2.2.2.2.2.2.2) (Kd.C_below HCX.out HS1.out.2.2.2.2.2.2.2) hm' (by have := HR.out.2.2.2.l; omega) (ord_of_up HR.out.2.2.2.r.2.2) HX12.out.2.1).mono ?_; rintro e w6 ⟨rfl, hb6⟩; have HS2 := Aside0.mk (C7.step HS1.out hb6); clear hb6)
            | (go_at_call 67; refine (weight_any (HR.out.1.step (below_drew HBX.out.bel)) (Kd.C_below HRD.out.row (below_drew (Below.refl _ _))) (Kd.C_below HCX.out (below_drew (Below.refl _ _))) hm (by have := HR.out.2.2.1.l; omega) (ord_of_up HR.out.2.2.1.r.2.2) HX12.out.1).mono ?_; rintro e w5 ⟨rfl, hb5⟩; have HS1 := Aside0.mk (C7.step HC7.out hb5); clear hb5))
        have HB6 := Aside0.mk HS2.out.2.2.2.2.2.2.2
        have HO6 := Aside0.mk (HO.out.step HB6.out)
        have HBX6 := Aside0.mk (HBX.out.step HB6.out)
        clear HC7 HS1 HS2 HFN eg
        cases ok with
        | false =>
          obtain ⟨z0, z1, z2, hz⟩ := HBX6.out.c
          obtain ⟨⟨q0, q1⟩, ⟨q2, q3⟩, ⟨q4, q5⟩⟩ := blk3_put hz (.slice none 0 0) (.slice none 0 0) (.slice none 0 0)
          have hz3 := blk3_three hz (.slice none 0 0) (.slice none 0 0) (.slice none 0 0)
          obtain ⟨r0, r1, r2⟩ := blk3_c hz3
          clear hz hz3
          go_wp2
          refine bodyPost_ret (v := .tuple #[.agg #[.slice none 0 0, .slice none 0 0, .slice none 0 0], .int .i64 11]) (by simp [results, Tryz.results35, go_sem, r0, r1, r2]) rfl ?_
          have hno : ¬ ∀ t ∈ J, (F t).2 = true := fun h => by have h2 := h x HT3.out; rw [HYO.out] at h2; cases h2
          have e := HJF.out
          rw [if_neg hno] at e
          obtain ⟨rfl, rfl⟩ := Prod.mk.inj e
          exact ⟨none, 0, none, 0, none, 0, rfl, WMk.none _ _, ((HBX6.out.bel.setCell (p := ⟨w.heap.size + 1 + 1, 0, none⟩) (show w.heap.size ≤ w.heap.size + 1 + 1 by omega) _).setCell (p := ⟨w.heap.size + 1 + 1, 1, none⟩) (show w.heap.size ≤ w.heap.size + 1 + 1 by omega) _).setCell (p := ⟨w.heap.size + 1 + 1, 2, none⟩) (show w.heap.size ≤ w.heap.size + 1 + 1 by omega) _⟩
        | true =>
          have p2 := (blk3_c HO6.out.blk).2.2
          rw [HG.out.1] at p2
          go_wp2_with (at_builtin; refine app_w (w := w6) w4.heap.size (fun k => w4.heap.size < k) rfl (.tmp 58) (.tmp 60) rfl (.slice As M.length cs) M y rfl rfl (fun k hk => by have := (Array.getElem?_eq_some_iff.1 HO6.out.blk).1; omega) HO6.out.row (Below.refl _ _) HO6.out.bel.size (by have := HLM.out; have := HJL.out; omega) ?_; intro v1 w8 HV8 HB8 HG8; obtain ⟨A9, c9, rfl⟩ := Kd.R_slice HV8.out; have hbk := HO6.out.at2 HG8.out.1; rw [HG.out.1] at hbk; have p8 := (blk3_c hbk).2.2; have p9 := blk_fr (i := 2) hbk; have HP8 := Aside0.mk (HO6.out.push HG8.out.1 HV8.out); clear hbk)
          go_roundw
          case rel =>
            refine ⟨k + 1, .slice A9 (M.length + 1) c9, M ++ [y], by omega, by go_num, ⟨HT1.out.2 ⟨HOK.out, by rw [HYO.out]⟩⟩, ⟨by rw [HT2.out, HMM.out, HYO.out]⟩, ⟨?_⟩⟩
            rw [← HG.out.1]
            have h := HP8.out
            rw [List.length_append] at h
            exact h
          case measure => simp [intOf]; omega
      · rw [List.take_of_length_le (by omega)] at HOK HMM
        obtain ⟨z0, z1, z2, hz⟩ := HBX.out.c
        have hbo := HO.out.blk
        rw [HG.out.1] at hbo
        obtain ⟨s0, s1, s2⟩ := blk3_c hbo
        obtain ⟨⟨q0, q1⟩, ⟨q2, q3⟩, ⟨q4, q5⟩⟩ := blk3_put hz (.slice A2 U.length c2) (.slice A3 J.length c3) (.slice As M.length cs)
        have hz3 := blk3_three hz (.slice A2 U.length c2) (.slice A3 J.length c3) (.slice As M.length cs)
        obtain ⟨r0, r1, r2⟩ := blk3_c hz3
        have e := HJF.out
        rw [if_pos HOK.out] at e
        rw [HMM.out] at e
        obtain ⟨rfl, rfl⟩ := Prod.mk.inj e
        clear hz hz3 hbo e HJF
        go_wp2
        refine bodyPost_ret (v := .tuple #[.agg #[.slice A2 U.length c2, .slice A3 J.length c3, .slice As M.length cs], .int .i64 0]) (by simp [results, Tryz.results35, go_sem, r0, r1, r2]) rfl ?_
        have hlo := HLO.out
        have hz1 := HZ4.out.1
        have hwl : w.heap.size + 1 + 1 < W0.heap.size := HLO.out
        have hfar : ∀ {V : World} (k : Nat) (u : Value), RelM V W0.heap.size (.agg #[.slice A2 U.length c2, .slice A3 J.length c3]) (U, J) → RelM (V.setCell ⟨w.heap.size + 1 + 1, k, none⟩ u) W0.heap.size (.agg #[.slice A2 U.length c2, .slice A3 J.length c3]) (U, J) := fun k u h => h.far (p := ⟨w.heap.size + 1 + 1, k, none⟩) hwl u
        have hrow : ∀ {V : World} (k : Nat) (u : Value), Kd.R KI 2 V w4.heap.size (fun k => w4.heap.size < k) (.slice As M.length cs) M → Kd.R KI 2 (V.setCell ⟨w.heap.size + 1 + 1, k, none⟩ u) w4.heap.size (fun k => w4.heap.size < k) (.slice As M.length cs) M := fun k u h => Kd.R_far h (p := ⟨w.heap.size + 1 + 1, k, none⟩) (fun q hq => by show q ≠ w.heap.size + 1 + 1; omega) u
        have hM5 := hfar 2 (.slice As M.length cs) (hfar 1 (.slice A3 J.length c3) (hfar 0 (.slice A2 U.length c2) (RelM.below HM.out (below_then HB14.out HB14.out.size HO.out.bel))))
        have hR5 := hrow 2 (.slice As M.length cs) (hrow 1 (.slice A3 J.length c3) (hrow 0 (.slice A2 U.length c2) HO.out.row))
        exact ⟨A2, c2, A3, c3, As, cs, rfl, ⟨hM5.lower (by omega), Kd.R_lower (Kd.R_mono hR5 (fun k hk => by show w.heap.size ≤ k; omega)) (by omega)⟩, ((HBX.out.bel.setCell (p := ⟨w.heap.size + 1 + 1, 0, none⟩) (show w.heap.size ≤ w.heap.size + 1 + 1 by omega) _).setCell (p := ⟨w.heap.size + 1 + 1, 1, none⟩) (show w.heap.size ≤ w.heap.size + 1 + 1 by omega) _).setCell (p := ⟨w.heap.size + 1 + 1, 2, none⟩) (show w.heap.size ≤ w.heap.size + 1 + 1 by omega) _⟩
  · have HJO := Aside0.mk (fun (W : World) (h : RelRd W A c a.sc A' c' a.L) (h' : RelRd W B d b.sc B' d' b.L) (ht : Tab W) => join_m (r := ([], [])) (n := 9) h HR.out.2.2.1 h' HR.out.2.2.2 most ht (by rw [joinAt, HU.out.2.1, HU.out.1, if_neg hfit]) (by rw [joinEr, HU.out.2.1, if_neg hfit]))
    have hJF : ((⟨[], [], []⟩ : WRel), (9 : Int)) = (r, n) := by rw [← HRR.out, HJT.out, if_neg hfit]
    have HJF := Aside0.mk hJF
    clear hfit HRR HJT hJF
    go_enter Tryz.func35, Tryz.ntmps35
    go_wp2_with (go_at_call 66; refine (HJO.out _ (HR.out.1.rel.step H0.out.bel) (HR.out.2.1.rel.step H0.out.bel) (HT.out.step H0.out.bel)).mono ?_; rintro e w1 ⟨A2, c2, A3, c3, rfl, hM, hb1⟩; have hb4 := below_then hb1 hb1.size (below_alloc (Below.refl w1.heap.size w1) (.cells #[.slice A2 0 c2, .slice A3 0 c3] 31)); have HX4 := Aside0.mk (H0.out.step hb4); obtain ⟨z0, z1, z2, hz⟩ := HX4.out.c; obtain ⟨⟨s0, s1⟩, ⟨s2, s3⟩, ⟨s4, s5⟩⟩ := blk3_put hz (.slice none 0 0) (.slice none 0 0) (.slice none 0 0); have hz3 := blk3_three hz (.slice none 0 0) (.slice none 0 0) (.slice none 0 0); obtain ⟨r0, r1, r2⟩ := blk3_c hz3; clear hz hz3 hM hb1 hb4)
    refine bodyPost_ret (v := .tuple #[.agg #[.slice none 0 0, .slice none 0 0, .slice none 0 0], .int .i64 9]) (by simp [results, Tryz.results35, go_sem, r0, r1, r2]) rfl ?_
    obtain ⟨rfl, rfl⟩ := Prod.mk.inj HJF.out
    exact ⟨none, 0, none, 0, none, 0, rfl, WMk.none _ _, ((HX4.out.bel.setCell (p := ⟨w.heap.size + 1 + 1, 0, none⟩) (show w.heap.size ≤ w.heap.size + 1 + 1 by omega) _).setCell (p := ⟨w.heap.size + 1 + 1, 1, none⟩) (show w.heap.size ≤ w.heap.size + 1 + 1 by omega) _).setCell (p := ⟨w.heap.size + 1 + 1, 2, none⟩) (show w.heap.size ≤ w.heap.size + 1 + 1 by omega) _⟩

set_option maxHeartbeats 8000000 in
set_option maxRecDepth 100000 in
theorem joined_plus (h : WRd w A c a.sc A' c' a.L Aw cw a.ws) (ht : Rt a.sc a.L) (hw : InW a.ws) (h' : WRd w B d b.sc B' d' b.L Bw dw b.ws) (ht' : Rt b.sc b.L) (hw' : InW b.ws) (hm : a.sc.length ≤ 1000000) (hm' : b.sc.length ≤ 1000000) (most : Int) (htab : Tab w) {r : WRel} {n : Int} (hr : joinedTo fPlus a b most = (r, n)) :
    Calls Tryz.prog 35 #[.agg #[.slice A a.sc.length c, .slice A' a.L.length c', .slice Aw a.ws.length cw], .agg #[.slice B b.sc.length d, .slice B' b.L.length d', .slice Bw b.ws.length dw], .int .i64 most, .func (.func 37) #[] #[]] w fun e w' => WOk w w' e r n := by
  have HR := Aside0.mk (And.intro h (And.intro h' (And.intro ht ht')))
  have HW := Aside0.mk (And.intro hw hw')
  have HT := Aside0.mk htab
  have HRR := Aside0.mk hr
  have hx0 := Bx3.new w (.slice A a.sc.length c) (.slice A' a.L.length c') (.slice Aw a.ws.length cw) (.slice B b.sc.length d) (.slice B' b.L.length d') (.slice Bw b.ws.length dw) (.slice none 0 0) (.slice none 0 0) (.slice none 0 0)
  obtain ⟨W0, hW0⟩ : ∃ W0, ((w.alloc (.cells #[.slice A a.sc.length c, .slice A' a.L.length c', .slice Aw a.ws.length cw] 37)).alloc (.cells #[.slice B b.sc.length d, .slice B' b.L.length d', .slice Bw b.ws.length dw] 37)).alloc (.cells #[.slice none 0 0, .slice none 0 0, .slice none 0 0] 37) = W0 := ⟨_, rfl⟩
  rw [hW0] at hx0
  have hlo : w.heap.size + 1 + 1 < W0.heap.size := by
    obtain ⟨x, y, z, hC⟩ := hx0.c
    exact (Array.getElem?_eq_some_iff.1 hC).1
  have HLO := Aside0.mk hlo
  obtain ⟨q0, q1, q2⟩ := blk3_c hx0.a
  obtain ⟨q3, q4, q5⟩ := blk3_c hx0.b
  have H0 := Aside0.mk hx0
  clear h h' ht ht' hw hw' hr htab hx0 hlo
  obtain ⟨U, hU⟩ : ∃ U, uni a.sc b.sc = U := ⟨_, rfl⟩
  obtain ⟨J, hJ⟩ : ∃ J, joinRows a.sc a.L b.sc b.L = J := ⟨_, rfl⟩
  obtain ⟨F, hF⟩ : ∃ F, wRow fPlus a.sc a.L a.ws b.sc b.L b.ws = F := ⟨_, rfl⟩
  have HJL := Aside0.mk (show J.length ≤ 400000000 from by rw [← hJ]; exact Nat.le_trans (join_len_le _ _ _ _) (Nat.mul_le_mul HR.out.2.2.1.l HR.out.2.2.2.l))
  have HU := Aside0.mk (And.intro hU (And.intro hJ hF))
  have HJT := Aside0.mk (show joinedTo fPlus a b most = if (J.length : Int) ≤ most then (if ∀ t ∈ J, (F t).2 = true then (⟨U, J, J.map fun t => (F t).1⟩, 0) else (⟨[], [], []⟩, 11)) else (⟨[], [], []⟩, 9) from by rw [← hU, ← hJ, ← hF]; rfl)
  clear hU hJ hF
  by_cases hfit : (J.length : Int) ≤ most
  · have HJO := Aside0.mk (fun (W : World) (h : RelRd W A c a.sc A' c' a.L) (h' : RelRd W B d b.sc B' d' b.L) (ht : Tab W) => join_m (r := (U, J)) (n := 0) h HR.out.2.2.1 h' HR.out.2.2.2 most ht (by rw [joinAt, HU.out.2.1, HU.out.1, if_pos hfit]) (by rw [joinEr, HU.out.2.1, if_pos hfit]))
    have HJF := Aside0.mk (show (if ∀ t ∈ J, (F t).2 = true then ((⟨U, J, J.map fun t => (F t).1⟩ : WRel), (0 : Int)) else (⟨[], [], []⟩, 11)) = (r, n) from by rw [← HRR.out, HJT.out, if_pos hfit])
    clear hfit HRR HJT
    go_enter Tryz.func35, Tryz.ntmps35
    go_wp2_with (go_at_call 66; refine (HJO.out _ (HR.out.1.rel.step H0.out.bel) (HR.out.2.1.rel.step H0.out.bel) (HT.out.step H0.out.bel)).mono ?_; rintro e w1 ⟨A2, c2, A3, c3, rfl, hM, hb1⟩; have HM := Aside0.mk hM; have HB1 := Aside0.mk hb1; clear hM hb1)
    clear q0 q1 q2 q3 q4 q5 hW0
    obtain ⟨w4, hw4⟩ : ∃ w4, w1.alloc (.cells #[.slice A2 U.length c2, .slice A3 J.length c3] 31) = w4 := ⟨_, rfl⟩
    have hg4 : w4.heap.size = w1.heap.size + 1 := by rw [← hw4]; simp
    have hr4 : w4.heap[w1.heap.size]? = some (.cells #[.slice A2 U.length c2, .slice A3 J.length c3] 31 (0, 0)) := by rw [← hw4]; exact heap_alloc_new w1 _
    have hb4 : Below w1.heap.size w1 w4 := by rw [← hw4]; exact below_alloc (Below.refl _ _) _
    have H4 := Aside0.mk (And.intro hr4 (And.intro ((H0.out.step HB1.out).step hb4) (HM.out.rd'.step hb4)))
    have HZ4 := Aside0.mk (And.intro (show w.heap.size + 1 + 1 < w4.heap.size from by have := HB1.out.size; have := HLO.out; omega) (show w1.heap.size < w4.heap.size from by omega))
    have HT4 := Aside0.mk ((HT.out.step H0.out.bel).step (below_then HB1.out HB1.out.size hb4))
    have HWO := Aside0.mk (WOut.new w4 (.slice A2 U.length c2) (.slice A3 J.length c3))
    have hJm : J.length ≤ 9223372036854775807 := HM.out.rd'.rows.2.1
    simp only [hw4, ← hg4]
    generalize w4.alloc (.cells #[.slice A2 U.length c2, .slice A3 J.length c3, .slice none 0 0] 37) = W5 at HWO ⊢
    have HB14 := Aside0.mk hb4
    clear hw4 hb4 hr4
    obtain ⟨g, hg⟩ : ∃ g, w4.heap.size = g := ⟨_, rfl⟩
    obtain ⟨g1, hg1⟩ : ∃ g1, w1.heap.size = g1 := ⟨_, rfl⟩
    have HG := Aside0.mk (And.intro hg hg1)
    rw [hg, hg1]
    rw [hg1] at H4
    clear hg hg1 hg4
    go_loopw [35] (fun i W => ∃ (k : Nat) (s : Value) (M : List Int), k ≤ J.length ∧ i = .int .i64 k ∧ Aside0 (∀ t ∈ J.take k, (F t).2 = true) ∧ Aside0 (((J.take k).map fun t => (F t).1) = M) ∧ Aside0 (WOut w4 (.slice A2 U.length c2) (.slice A3 J.length c3) s M W)) (fun i _ => J.length - (intOf i).toNat)
    case atStart => exact ⟨0, _, [], Nat.zero_le _, rfl, ⟨by simp⟩, ⟨rfl⟩, HWO⟩
    case round =>
      clear HWO
      obtain ⟨k, s, M, hk, rfl, HOK, HMM, HO⟩ := hrel
      obtain ⟨As, cs, rfl, hcs, hCs⟩ := Kd.R_reads HO.out.row
      have HCS := Aside0.mk (And.intro hcs hCs)
      clear hcs hCs
      have HBX := Aside0.mk (H4.out.2.1.step HO.out.bel)
      have hbr := (HO.out.bel.block _ (Array.getElem?_eq_some_iff.1 H4.out.1).1).trans H4.out.1
      have hrd := H4.out.2.2.step HO.out.bel
      have HRD := Aside0.mk hrd
      obtain ⟨p0, p1, p2⟩ := blk3_c HBX.out.a
      obtain ⟨p3, p4, p5⟩ := blk3_c HBX.out.b
      have p6 := blk2_c0 hbr
      have p7 := blk2_c1 hbr
      clear hbr hrd
      by_cases hlt : k < J.length
      · have hkl : (k : Int) < (J.length : Int) := by omega
        obtain ⟨ad, Bx, cx, rfl, hx, _, hcx⟩ := at_row HRD.out.rows (Below.refl _ _) k hlt
        have HT1 := Aside0.mk (show (∀ t ∈ J.take (k + 1), (F t).2 = true) ↔ (∀ t ∈ J.take k, (F t).2 = true) ∧ (F (J.getD k [])).2 = true from by
          rw [List.take_succ_eq_append_getElem hlt, getD_get _ _ hlt]
          simp only [List.mem_append, List.mem_singleton]
          exact ⟨fun h => ⟨fun t ht => h t (.inl ht), h _ (.inr rfl)⟩, fun h t ht => ht.elim (h.1 t) (fun e => e ▸ h.2)⟩)
        have HT2 := Aside0.mk (map_take_getD (fun t => (F t).1) J k hlt)
        have HT3 := Aside0.mk (show J.getD k [] ∈ J from by rw [getD_get _ _ hlt]; exact List.getElem_mem hlt)
        obtain ⟨x, hxe⟩ : ∃ x, J.getD k [] = x := ⟨_, rfl⟩
        rw [hxe] at hx hcx HT1 HT2 HT3
        have HCX := Aside0.mk hcx
        obtain ⟨x1, hx1⟩ : ∃ v, weightOf a.sc a.L a.ws U x = v := ⟨_, rfl⟩
        obtain ⟨x2, hx2⟩ : ∃ v, weightOf b.sc b.L b.ws U x = v := ⟨_, rfl⟩
        have HX12 := Aside0.mk (And.intro hx1 (And.intro hx2 (show F x = fPlus x1 x2 from by rw [← HU.out.2.2, wRow, HU.out.1, hx1, hx2])))
        have HIN := Aside0.mk (show x1.natAbs ≤ 4611686018427387904 ∧ x2.natAbs ≤ 4611686018427387904 from ⟨hx1 ▸ weightOf_in HW.out.1 _ _, hx2 ▸ weightOf_in HW.out.2 _ _⟩)
        have hml : M.length ≤ k := by rw [← HMM.out, List.length_map, List.length_take]; omega
        have HLM := Aside0.mk hml
        have HC7 := Aside0.mk (C7.step (w1 := wr) ⟨p0, p1, p2, p3, p4, p5, p6, Below.refl _ _⟩ (below_drew (Below.refl _ _)))
        obtain ⟨y, ok, hyo⟩ : ∃ y ok, fPlus x1 x2 = (y, ok) := ⟨_, _, rfl⟩
        have HFN := Aside0.mk (fun (W : World) => (show Calls Tryz.prog 37 #[.int .i64 x1, .int .i64 x2] W fun e w' => e = .returned (.tuple #[.int .i64 y, .bool ok]) ∧ W = w' from by
          have h := wplus_any x1 x2 HIN.out.1 HIN.out.2 W
          have e := Prod.mk.inj (show ((fPlus x1 x2).1, (fPlus x1 x2).2) = (y, ok) from hyo)
          rw [← e.1, ← e.2]; exact h))
        have HYO := Aside0.mk (show F x = (y, ok) from by rw [HX12.out.2.2, hyo])
        have eg := enters_of Tryz.func37 (by kernel_rfl) rfl
        clear hcx hxe hx1 hx2 hml hyo
        go_wp2_with fail
        clear p0 p1 p2 p3 p4 p5 p6 p7 hx
        go_region_held3 (fun W => W.cell? ⟨w.heap.size, 0, none⟩ = some (.slice A a.sc.length c) ∧ W.cell? ⟨w.heap.size, 1, none⟩ = some (.slice A' a.L.length c') ∧ W.cell? ⟨w.heap.size, 2, none⟩ = some (.slice Aw a.ws.length cw) ∧ W.cell? ⟨w.heap.size + 1, 0, none⟩ = some (.slice B b.sc.length d) ∧ W.cell? ⟨w.heap.size + 1, 1, none⟩ = some (.slice B' b.L.length d') ∧ W.cell? ⟨w.heap.size + 1, 2, none⟩ = some (.slice Bw b.ws.length dw) ∧ W.cell? ⟨g1, 0, none⟩ = some (.slice A2 U.length c2) ∧ Below wr.heap.size wr W)
          (first | with_reducible exact HS2.out | with_reducible exact HS1.out | with_reducible exact HC7.out)
          (first
            | (have hgd := HS2; clear hgd; go_at_call 37; refine (HFN.out _).mono ?_; rintro e w7 ⟨rfl, rfl⟩)
            | (have hgd := HS1; clear hgd; go_at_call 67; refine (weight_any (HR.out.2.1.step (below_then HBX.out.bel HBX.out.bel.size HS1.out.2.2.2.2.2.2.2)) (Kd.C_below HRD.out.row HS1.out.2.2.2.2.2.2.2) (Kd.C_below HCX.out HS1.out.2.2.2.2.2.2.2) hm' (by have := HR.out.2.2.2.l; omega) (ord_of_up HR.out.2.2.2.r.2.2) HX12.out.2.1).mono ?_; rintro e w6 ⟨rfl, hb6⟩; have HS2 := Aside0.mk (C7.step HS1.out hb6); clear hb6)
            | (go_at_call 67; refine (weight_any (HR.out.1.step (below_drew HBX.out.bel)) (Kd.C_below HRD.out.row (below_drew (Below.refl _ _))) (Kd.C_below HCX.out (below_drew (Below.refl _ _))) hm (by have := HR.out.2.2.1.l; omega) (ord_of_up HR.out.2.2.1.r.2.2) HX12.out.1).mono ?_; rintro e w5 ⟨rfl, hb5⟩; have HS1 := Aside0.mk (C7.step HC7.out hb5); clear hb5))
        have HB6 := Aside0.mk HS2.out.2.2.2.2.2.2.2
        have HO6 := Aside0.mk (HO.out.step HB6.out)
        have HBX6 := Aside0.mk (HBX.out.step HB6.out)
        clear HC7 HS1 HS2 HFN eg
        cases ok with
        | false =>
          obtain ⟨z0, z1, z2, hz⟩ := HBX6.out.c
          obtain ⟨⟨q0, q1⟩, ⟨q2, q3⟩, ⟨q4, q5⟩⟩ := blk3_put hz (.slice none 0 0) (.slice none 0 0) (.slice none 0 0)
          have hz3 := blk3_three hz (.slice none 0 0) (.slice none 0 0) (.slice none 0 0)
          obtain ⟨r0, r1, r2⟩ := blk3_c hz3
          clear hz hz3
          go_wp2
          refine bodyPost_ret (v := .tuple #[.agg #[.slice none 0 0, .slice none 0 0, .slice none 0 0], .int .i64 11]) (by simp [results, Tryz.results35, go_sem, r0, r1, r2]) rfl ?_
          have hno : ¬ ∀ t ∈ J, (F t).2 = true := fun h => by have h2 := h x HT3.out; rw [HYO.out] at h2; cases h2
          have e := HJF.out
          rw [if_neg hno] at e
          obtain ⟨rfl, rfl⟩ := Prod.mk.inj e
          exact ⟨none, 0, none, 0, none, 0, rfl, WMk.none _ _, ((HBX6.out.bel.setCell (p := ⟨w.heap.size + 1 + 1, 0, none⟩) (show w.heap.size ≤ w.heap.size + 1 + 1 by omega) _).setCell (p := ⟨w.heap.size + 1 + 1, 1, none⟩) (show w.heap.size ≤ w.heap.size + 1 + 1 by omega) _).setCell (p := ⟨w.heap.size + 1 + 1, 2, none⟩) (show w.heap.size ≤ w.heap.size + 1 + 1 by omega) _⟩
        | true =>
          have p2 := (blk3_c HO6.out.blk).2.2
          rw [HG.out.1] at p2
          go_wp2_with (at_builtin; refine app_w (w := w6) w4.heap.size (fun k => w4.heap.size < k) rfl (.tmp 58) (.tmp 60) rfl (.slice As M.length cs) M y rfl rfl (fun k hk => by have := (Array.getElem?_eq_some_iff.1 HO6.out.blk).1; omega) HO6.out.row (Below.refl _ _) HO6.out.bel.size (by have := HLM.out; have := HJL.out; omega) ?_; intro v1 w8 HV8 HB8 HG8; obtain ⟨A9, c9, rfl⟩ := Kd.R_slice HV8.out; have hbk := HO6.out.at2 HG8.out.1; rw [HG.out.1] at hbk; have p8 := (blk3_c hbk).2.2; have p9 := blk_fr (i := 2) hbk; have HP8 := Aside0.mk (HO6.out.push HG8.out.1 HV8.out); clear hbk)
          go_roundw
          case rel =>
            refine ⟨k + 1, .slice A9 (M.length + 1) c9, M ++ [y], by omega, by go_num, ⟨HT1.out.2 ⟨HOK.out, by rw [HYO.out]⟩⟩, ⟨by rw [HT2.out, HMM.out, HYO.out]⟩, ⟨?_⟩⟩
            rw [← HG.out.1]
            have h := HP8.out
            rw [List.length_append] at h
            exact h
          case measure => simp [intOf]; omega
      · rw [List.take_of_length_le (by omega)] at HOK HMM
        obtain ⟨z0, z1, z2, hz⟩ := HBX.out.c
        have hbo := HO.out.blk
        rw [HG.out.1] at hbo
        obtain ⟨s0, s1, s2⟩ := blk3_c hbo
        obtain ⟨⟨q0, q1⟩, ⟨q2, q3⟩, ⟨q4, q5⟩⟩ := blk3_put hz (.slice A2 U.length c2) (.slice A3 J.length c3) (.slice As M.length cs)
        have hz3 := blk3_three hz (.slice A2 U.length c2) (.slice A3 J.length c3) (.slice As M.length cs)
        obtain ⟨r0, r1, r2⟩ := blk3_c hz3
        have e := HJF.out
        rw [if_pos HOK.out] at e
        rw [HMM.out] at e
        obtain ⟨rfl, rfl⟩ := Prod.mk.inj e
        clear hz hz3 hbo e HJF
        go_wp2
        refine bodyPost_ret (v := .tuple #[.agg #[.slice A2 U.length c2, .slice A3 J.length c3, .slice As M.length cs], .int .i64 0]) (by simp [results, Tryz.results35, go_sem, r0, r1, r2]) rfl ?_
        have hlo := HLO.out
        have hz1 := HZ4.out.1
        have hwl : w.heap.size + 1 + 1 < W0.heap.size := HLO.out
        have hfar : ∀ {V : World} (k : Nat) (u : Value), RelM V W0.heap.size (.agg #[.slice A2 U.length c2, .slice A3 J.length c3]) (U, J) → RelM (V.setCell ⟨w.heap.size + 1 + 1, k, none⟩ u) W0.heap.size (.agg #[.slice A2 U.length c2, .slice A3 J.length c3]) (U, J) := fun k u h => h.far (p := ⟨w.heap.size + 1 + 1, k, none⟩) hwl u
        have hrow : ∀ {V : World} (k : Nat) (u : Value), Kd.R KI 2 V w4.heap.size (fun k => w4.heap.size < k) (.slice As M.length cs) M → Kd.R KI 2 (V.setCell ⟨w.heap.size + 1 + 1, k, none⟩ u) w4.heap.size (fun k => w4.heap.size < k) (.slice As M.length cs) M := fun k u h => Kd.R_far h (p := ⟨w.heap.size + 1 + 1, k, none⟩) (fun q hq => by show q ≠ w.heap.size + 1 + 1; omega) u
        have hM5 := hfar 2 (.slice As M.length cs) (hfar 1 (.slice A3 J.length c3) (hfar 0 (.slice A2 U.length c2) (RelM.below HM.out (below_then HB14.out HB14.out.size HO.out.bel))))
        have hR5 := hrow 2 (.slice As M.length cs) (hrow 1 (.slice A3 J.length c3) (hrow 0 (.slice A2 U.length c2) HO.out.row))
        exact ⟨A2, c2, A3, c3, As, cs, rfl, ⟨hM5.lower (by omega), Kd.R_lower (Kd.R_mono hR5 (fun k hk => by show w.heap.size ≤ k; omega)) (by omega)⟩, ((HBX.out.bel.setCell (p := ⟨w.heap.size + 1 + 1, 0, none⟩) (show w.heap.size ≤ w.heap.size + 1 + 1 by omega) _).setCell (p := ⟨w.heap.size + 1 + 1, 1, none⟩) (show w.heap.size ≤ w.heap.size + 1 + 1 by omega) _).setCell (p := ⟨w.heap.size + 1 + 1, 2, none⟩) (show w.heap.size ≤ w.heap.size + 1 + 1 by omega) _⟩
  · have HJO := Aside0.mk (fun (W : World) (h : RelRd W A c a.sc A' c' a.L) (h' : RelRd W B d b.sc B' d' b.L) (ht : Tab W) => join_m (r := ([], [])) (n := 9) h HR.out.2.2.1 h' HR.out.2.2.2 most ht (by rw [joinAt, HU.out.2.1, HU.out.1, if_neg hfit]) (by rw [joinEr, HU.out.2.1, if_neg hfit]))
    have hJF : ((⟨[], [], []⟩ : WRel), (9 : Int)) = (r, n) := by rw [← HRR.out, HJT.out, if_neg hfit]
    have HJF := Aside0.mk hJF
    clear hfit HRR HJT hJF
    go_enter Tryz.func35, Tryz.ntmps35
    go_wp2_with (go_at_call 66; refine (HJO.out _ (HR.out.1.rel.step H0.out.bel) (HR.out.2.1.rel.step H0.out.bel) (HT.out.step H0.out.bel)).mono ?_; rintro e w1 ⟨A2, c2, A3, c3, rfl, hM, hb1⟩; have hb4 := below_then hb1 hb1.size (below_alloc (Below.refl w1.heap.size w1) (.cells #[.slice A2 0 c2, .slice A3 0 c3] 31)); have HX4 := Aside0.mk (H0.out.step hb4); obtain ⟨z0, z1, z2, hz⟩ := HX4.out.c; obtain ⟨⟨s0, s1⟩, ⟨s2, s3⟩, ⟨s4, s5⟩⟩ := blk3_put hz (.slice none 0 0) (.slice none 0 0) (.slice none 0 0); have hz3 := blk3_three hz (.slice none 0 0) (.slice none 0 0) (.slice none 0 0); obtain ⟨r0, r1, r2⟩ := blk3_c hz3; clear hz hz3 hM hb1 hb4)
    refine bodyPost_ret (v := .tuple #[.agg #[.slice none 0 0, .slice none 0 0, .slice none 0 0], .int .i64 9]) (by simp [results, Tryz.results35, go_sem, r0, r1, r2]) rfl ?_
    obtain ⟨rfl, rfl⟩ := Prod.mk.inj HJF.out
    exact ⟨none, 0, none, 0, none, 0, rfl, WMk.none _ _, ((HX4.out.bel.setCell (p := ⟨w.heap.size + 1 + 1, 0, none⟩) (show w.heap.size ≤ w.heap.size + 1 + 1 by omega) _).setCell (p := ⟨w.heap.size + 1 + 1, 1, none⟩) (show w.heap.size ≤ w.heap.size + 1 + 1 by omega) _).setCell (p := ⟨w.heap.size + 1 + 1, 2, none⟩) (show w.heap.size ≤ w.heap.size + 1 + 1 by omega) _⟩

end
end Go.Proofs.YtlmkgghpaaadhaaGreatDoor.G

/- weigh.Times and weigh.Plus, at int64. -/
set_option linter.unusedVariables false
set_option linter.unusedSimpArgs false
namespace Go.Proofs.YtlmkgghpaaadhaaGreatDoor.G
open Go.RowKit Go.Proofs.YtlmkgghpaaadhaaGreatDoorW.PrintWords Go.Proofs.YtlmkgghpaaadhaaGreatDoorW.PrintLast Go.Proofs.YtlmkgghpaaadhaaGreatDoorW.PrintMore
section
variable {A : Option Addr} {c : Nat} {A' : Option Addr} {c' : Nat} {Aw : Option Addr} {cw : Nat} {B : Option Addr} {d : Nat} {B' : Option Addr} {d' : Nat} {Bw : Option Addr} {dw : Nat} {a b : WRel} {w : World}

set_option maxHeartbeats 4000000 in
set_option maxRecDepth 100000 in
theorem times_any (h : WRd w A c a.sc A' c' a.L Aw cw a.ws) (ht : Rt a.sc a.L) (hw : InW a.ws) (h' : WRd w B d b.sc B' d' b.L Bw dw b.ws) (ht' : Rt b.sc b.L) (hw' : InW b.ws) (hm : a.sc.length ≤ 1000000) (hm' : b.sc.length ≤ 1000000) (most : Int) (htab : Tab w) {r : WRel} {n : Int} (hr : joinedTo fTimes a b most = (r, n)) :
    Calls Tryz.prog 15 #[.agg #[.slice A a.sc.length c, .slice A' a.L.length c', .slice Aw a.ws.length cw], .agg #[.slice B b.sc.length d, .slice B' b.L.length d', .slice Bw b.ws.length dw], .int .i64 most] w fun e w' => WOk w w' e r n := by
  have hx0 := Bx3.new w (.slice A a.sc.length c) (.slice A' a.L.length c') (.slice Aw a.ws.length cw) (.slice B b.sc.length d) (.slice B' b.L.length d') (.slice Bw b.ws.length dw) (.slice none 0 0) (.slice none 0 0) (.slice none 0 0)
  obtain ⟨W0, hW0⟩ : ∃ W0, ((w.alloc (.cells #[.slice A a.sc.length c, .slice A' a.L.length c', .slice Aw a.ws.length cw] 37)).alloc (.cells #[.slice B b.sc.length d, .slice B' b.L.length d', .slice Bw b.ws.length dw] 37)).alloc (.cells #[.slice none 0 0, .slice none 0 0, .slice none 0 0] 37) = W0 := ⟨_, rfl⟩
  rw [hW0] at hx0
  obtain ⟨q0, q1, q2⟩ := blk3_c hx0.a
  obtain ⟨q3, q4, q5⟩ := blk3_c hx0.b
  have H0 := Aside0.mk hx0
  have HC := Aside0.mk (joined_times (h.step hx0.bel) ht hw (h'.step hx0.bel) ht' hw' hm hm' most (htab.step hx0.bel) hr)
  have hlo : w.heap.size + 1 + 1 < W0.heap.size := by
    obtain ⟨x, y, z, hC⟩ := hx0.c
    exact (Array.getElem?_eq_some_iff.1 hC).1
  clear h h' ht ht' hw hw' hr htab hx0
  go_enter Tryz.func15, Tryz.ntmps15
  go_wp2_with (go_at_call 35; refine (HC.out).mono ?_; rintro e w1 ⟨A2, c2, A3, c3, A4, c4, rfl, hW, hb1⟩; have HX := Aside0.mk (H0.out.step hb1); have HWR := Aside0.mk hW; obtain ⟨z0, z1, z2, hz⟩ := HX.out.c; obtain ⟨⟨s0, s1⟩, ⟨s2, s3⟩, ⟨s4, s5⟩⟩ := blk3_put hz (.slice A2 r.sc.length c2) (.slice A3 r.L.length c3) (.slice A4 r.ws.length c4); have hz3 := blk3_three hz (.slice A2 r.sc.length c2) (.slice A3 r.L.length c3) (.slice A4 r.ws.length c4); obtain ⟨r0, r1, r2⟩ := blk3_c hz3; clear hz hz3 hb1 hW)
  refine bodyPost_ret (v := .tuple #[.agg #[.slice A2 r.sc.length c2, .slice A3 r.L.length c3, .slice A4 r.ws.length c4], .int .i64 n]) (by simp [results, Tryz.results15, go_sem, r0, r1, r2]) rfl ?_
  exact ⟨_, _, _, _, _, _, rfl, (((HWR.out.far (p := ⟨w.heap.size + 1 + 1, 0, none⟩) hlo _).far (p := ⟨w.heap.size + 1 + 1, 1, none⟩) hlo _).far (p := ⟨w.heap.size + 1 + 1, 2, none⟩) hlo _).lower (by omega), ((HX.out.bel.setCell (p := ⟨w.heap.size + 1 + 1, 0, none⟩) (show w.heap.size ≤ w.heap.size + 1 + 1 by omega) _).setCell (p := ⟨w.heap.size + 1 + 1, 1, none⟩) (show w.heap.size ≤ w.heap.size + 1 + 1 by omega) _).setCell (p := ⟨w.heap.size + 1 + 1, 2, none⟩) (show w.heap.size ≤ w.heap.size + 1 + 1 by omega) _⟩

set_option maxHeartbeats 4000000 in
set_option maxRecDepth 100000 in
theorem plus_any (h : WRd w A c a.sc A' c' a.L Aw cw a.ws) (ht : Rt a.sc a.L) (hw : InW a.ws) (h' : WRd w B d b.sc B' d' b.L Bw dw b.ws) (ht' : Rt b.sc b.L) (hw' : InW b.ws) (hm : a.sc.length ≤ 1000000) (hm' : b.sc.length ≤ 1000000) (most : Int) (htab : Tab w) {r : WRel} {n : Int} (hr : joinedTo fPlus a b most = (r, n)) :
    Calls Tryz.prog 17 #[.agg #[.slice A a.sc.length c, .slice A' a.L.length c', .slice Aw a.ws.length cw], .agg #[.slice B b.sc.length d, .slice B' b.L.length d', .slice Bw b.ws.length dw], .int .i64 most] w fun e w' => WOk w w' e r n := by
  have hx0 := Bx3.new w (.slice A a.sc.length c) (.slice A' a.L.length c') (.slice Aw a.ws.length cw) (.slice B b.sc.length d) (.slice B' b.L.length d') (.slice Bw b.ws.length dw) (.slice none 0 0) (.slice none 0 0) (.slice none 0 0)
  obtain ⟨W0, hW0⟩ : ∃ W0, ((w.alloc (.cells #[.slice A a.sc.length c, .slice A' a.L.length c', .slice Aw a.ws.length cw] 37)).alloc (.cells #[.slice B b.sc.length d, .slice B' b.L.length d', .slice Bw b.ws.length dw] 37)).alloc (.cells #[.slice none 0 0, .slice none 0 0, .slice none 0 0] 37) = W0 := ⟨_, rfl⟩
  rw [hW0] at hx0
  obtain ⟨q0, q1, q2⟩ := blk3_c hx0.a
  obtain ⟨q3, q4, q5⟩ := blk3_c hx0.b
  have H0 := Aside0.mk hx0
  have HC := Aside0.mk (joined_plus (h.step hx0.bel) ht hw (h'.step hx0.bel) ht' hw' hm hm' most (htab.step hx0.bel) hr)
  have hlo : w.heap.size + 1 + 1 < W0.heap.size := by
    obtain ⟨x, y, z, hC⟩ := hx0.c
    exact (Array.getElem?_eq_some_iff.1 hC).1
  clear h h' ht ht' hw hw' hr htab hx0
  go_enter Tryz.func17, Tryz.ntmps17
  go_wp2_with (go_at_call 35; refine (HC.out).mono ?_; rintro e w1 ⟨A2, c2, A3, c3, A4, c4, rfl, hW, hb1⟩; have HX := Aside0.mk (H0.out.step hb1); have HWR := Aside0.mk hW; obtain ⟨z0, z1, z2, hz⟩ := HX.out.c; obtain ⟨⟨s0, s1⟩, ⟨s2, s3⟩, ⟨s4, s5⟩⟩ := blk3_put hz (.slice A2 r.sc.length c2) (.slice A3 r.L.length c3) (.slice A4 r.ws.length c4); have hz3 := blk3_three hz (.slice A2 r.sc.length c2) (.slice A3 r.L.length c3) (.slice A4 r.ws.length c4); obtain ⟨r0, r1, r2⟩ := blk3_c hz3; clear hz hz3 hb1 hW)
  refine bodyPost_ret (v := .tuple #[.agg #[.slice A2 r.sc.length c2, .slice A3 r.L.length c3, .slice A4 r.ws.length c4], .int .i64 n]) (by simp [results, Tryz.results17, go_sem, r0, r1, r2]) rfl ?_
  exact ⟨_, _, _, _, _, _, rfl, (((HWR.out.far (p := ⟨w.heap.size + 1 + 1, 0, none⟩) hlo _).far (p := ⟨w.heap.size + 1 + 1, 1, none⟩) hlo _).far (p := ⟨w.heap.size + 1 + 1, 2, none⟩) hlo _).lower (by omega), ((HX.out.bel.setCell (p := ⟨w.heap.size + 1 + 1, 0, none⟩) (show w.heap.size ≤ w.heap.size + 1 + 1 by omega) _).setCell (p := ⟨w.heap.size + 1 + 1, 1, none⟩) (show w.heap.size ≤ w.heap.size + 1 + 1 by omega) _).setCell (p := ⟨w.heap.size + 1 + 1, 2, none⟩) (show w.heap.size ≤ w.heap.size + 1 + 1 by omega) _⟩
end
end Go.Proofs.YtlmkgghpaaadhaaGreatDoor.G
