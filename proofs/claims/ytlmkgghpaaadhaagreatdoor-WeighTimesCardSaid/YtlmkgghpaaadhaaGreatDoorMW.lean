/- Several texts of this claim in one. -/
import Derived.Test.YtlmkgghpaaadhaaGreatDoorMV
import Derived.Laws.Externs
import Derived.Test.YtlmkgghpaaadhaaGreatDoorMU
import Derived.Deep.DeepCutAuto
/- weigh, by complex numbers, at the one case that the law shows. -/
set_option linter.unusedVariables false
set_option linter.unusedSimpArgs false
namespace Go.Proofs.YtlmkgghpaaadhaaGreatDoor.G
open Go.RowKit Go.Proofs.YtlmkgghpaaadhaaGreatDoorW.PrintWords Go.Proofs.YtlmkgghpaaadhaaGreatDoorW.PrintLast Go.Proofs.YtlmkgghpaaadhaaGreatDoorW.PrintMore
/-- A number of which all that weigh asks is known. -/
structure Fl (x y : Nat) : Prop where
  trunc : ∀ W, (callFunc 112 #[.float .f64 x]).run Tryz.prog W = .ok (.value (.float .f64 x)) W
  bits : ∀ W, (callFunc 101 #[.float .f64 x]).run Tryz.prog W = .ok (.value (.int .u64 x)) W
  abs : Go.bits .andNot .u64 (x : Int) 9223372036854775808 = (y : Int)
  back : ∀ W, (callFunc 100 #[.int .u64 y]).run Tryz.prog W = .ok (.value (.float .f64 y)) W
  same : ∀ W, (binOp .eql 69 (.float .f64 x) (.float .f64 x)).run Tryz.prog W = .ok (.bool true) W
  less : ∀ W, (binOp .lss 69 (.float .f64 y) (.float .f64 4845873199050653696)).run Tryz.prog W = .ok (.bool true) W
theorem fl_0 : Fl 0 0 := ⟨fun W => by kernel_rfl, fun W => by kernel_rfl, by kernel_rfl, fun W => by kernel_rfl, fun W => by kernel_rfl, fun W => by kernel_rfl⟩
theorem fl_4 : Fl 4616189618054758400 4616189618054758400 := ⟨fun W => by kernel_rfl, fun W => by kernel_rfl, by kernel_rfl, fun W => by kernel_rfl, fun W => by kernel_rfl, fun W => by kernel_rfl⟩
theorem fl_m4 : Fl 13839561654909534208 4616189618054758400 := ⟨fun W => by kernel_rfl, fun W => by kernel_rfl, by kernel_rfl, fun W => by kernel_rfl, fun W => by kernel_rfl, fun W => by kernel_rfl⟩
set_option maxHeartbeats 1000000 in
set_option maxRecDepth 100000 in
theorem trunc_at {x y : Nat} (h : Fl x y) (w : World) : Calls Tryz.prog 94 #[.float .f64 x] w fun e w' => e = .returned (.float .f64 x) ∧ w = w' := by
  have h1 := h.trunc
  go_enter Tryz.func94, Tryz.ntmps94
  go_wp2
  go_ret
  exact ⟨rfl, rfl⟩
set_option maxHeartbeats 1000000 in
set_option maxRecDepth 100000 in
theorem abs_at {x y : Nat} (h : Fl x y) (w : World) : Calls Tryz.prog 77 #[.float .f64 x] w fun e w' => e = .returned (.float .f64 y) ∧ w = w' := by
  have h1 := h.bits
  have h2 := h.abs
  have h3 := h.back
  go_enter Tryz.func77, Tryz.ntmps77
  go_wp2
  go_ret
  exact ⟨rfl, rfl⟩
set_option maxHeartbeats 1000000 in
set_option maxRecDepth 100000 in
theorem whole_at {x y : Nat} (h : Fl x y) (w : World) : Calls Tryz.prog 69 #[.float .f64 x] w fun e w' => e = .returned (.bool true) ∧ w = w' := by
  have h1 := h.same
  have h2 := h.less
  go_enter Tryz.func69, Tryz.ntmps69
  go_wp2_with (first | (go_at_call 94; refine (trunc_at h _).mono ?_; rintro e w' ⟨rfl, rfl⟩) | (go_at_call 77; refine (abs_at h _).mono ?_; rintro e w' ⟨rfl, rfl⟩))
  go_ret
  exact ⟨rfl, rfl⟩
theorem as_cx (W : World) (v : Value) : (Instr.typeAssert (.iface 51 v) 20 51 true).run Tryz.prog W = .ok (.tuple #[v, .bool true]) W := by kernel_rfl
theorem as_cx1 (W : World) (v : Value) : (Instr.typeAssert (.iface 51 v) 20 51 false).run Tryz.prog W = .ok v W := by kernel_rfl
theorem as_cx0 (W : World) (v : Value) : (Instr.typeAssert (.iface 51 v) 20 2 true).run Tryz.prog W = .ok (.tuple #[.int .i64 0, .bool false]) W := by kernel_rfl
theorem run_real (x y : Nat) (W : World) : (Builtin.real_ #[51] 69 #[.complex .f64 x y]).run Tryz.prog W = .ok (.float .f64 x) W := rfl
theorem run_imag (x y : Nat) (W : World) : (Builtin.imag_ #[51] 69 #[.complex .f64 x y]).run Tryz.prog W = .ok (.float .f64 y) W := rfl
set_option maxHeartbeats 2000000 in
set_option maxRecDepth 100000 in
theorem fits_at {x y x' y' : Nat} (h : Fl x y) (h' : Fl x' y') (w : World) : Calls Tryz.prog 62 #[.complex .f64 x x'] w fun e w' => e = .returned (.bool true) ∧ w = w' := by
  have ha := fun W => as_cx W (.complex .f64 x x')
  have hb := fun W => as_cx0 W (.complex .f64 x x')
  have hre := fun W => run_real x x' W
  have him := fun W => run_imag x x' W
  go_enter Tryz.func62, Tryz.ntmps62
  go_wp2_with (go_at_call 69; first | ((with_reducible refine (whole_at h _).mono ?_); rintro e w' ⟨rfl, rfl⟩) | ((with_reducible refine (whole_at h' _).mono ?_); rintro e w' ⟨rfl, rfl⟩))
  go_ret
  exact ⟨rfl, rfl⟩
set_option maxHeartbeats 4000000 in
set_option maxRecDepth 100000 in
theorem product_cx (w : World) : Calls Tryz.prog 44 #[.complex .f64 0 4611686018427387904, .complex .f64 0 4611686018427387904] w fun e w' => e = .returned (.tuple #[.complex .f64 13839561654909534208 0, .bool true]) ∧ Drawn0 w w' := by
  have ha := fun W => as_cx W (.complex .f64 0 4611686018427387904)
  have hb := fun W => as_cx0 W (.complex .f64 0 4611686018427387904)
  have hc := fun W => as_cx1 W (.complex .f64 0 4611686018427387904)
  have hd := fun W => as_cx1 W (.complex .f64 13839561654909534208 0)
  have hre := fun W => run_real 0 4611686018427387904 W
  have him := fun W => run_imag 0 4611686018427387904 W
  have m1 : ∀ W, (binOp .mul 69 (.float .f64 0) (.float .f64 0)).run Tryz.prog W = .ok (.float .f64 0) W := fun W => by kernel_rfl
  have m2 : ∀ W, (binOp .mul 69 (.float .f64 4611686018427387904) (.float .f64 4611686018427387904)).run Tryz.prog W = .ok (.float .f64 4616189618054758400) W := fun W => by kernel_rfl
  have m3 : ∀ W, (binOp .mul 69 (.float .f64 0) (.float .f64 4611686018427387904)).run Tryz.prog W = .ok (.float .f64 0) W := fun W => by kernel_rfl
  have m4 : ∀ W, (binOp .mul 69 (.float .f64 4611686018427387904) (.float .f64 0)).run Tryz.prog W = .ok (.float .f64 0) W := fun W => by kernel_rfl
  have m5 : ∀ W, (binOp .sub 69 (.float .f64 0) (.float .f64 4616189618054758400)).run Tryz.prog W = .ok (.float .f64 13839561654909534208) W := fun W => by kernel_rfl
  have m6 : ∀ W, (binOp .add 69 (.float .f64 0) (.float .f64 0)).run Tryz.prog W = .ok (.float .f64 0) W := fun W => by kernel_rfl
  have m7 : ∀ W, (Builtin.complex_ #[69, 69] 51 #[.float .f64 13839561654909534208, .float .f64 0]).run Tryz.prog W = .ok (.complex .f64 13839561654909534208 0) W := fun W => by kernel_rfl
  have m8 : ∀ W, (Instr.index 115 (.agg #[.float .f64 0, .float .f64 4616189618054758400, .float .f64 0, .float .f64 0]) (.int .i64 0)).run Tryz.prog W = .ok (.float .f64 0) W := fun W => by kernel_rfl
  have m9 : ∀ W, (Instr.index 115 (.agg #[.float .f64 0, .float .f64 4616189618054758400, .float .f64 0, .float .f64 0]) (.int .i64 1)).run Tryz.prog W = .ok (.float .f64 4616189618054758400) W := fun W => by kernel_rfl
  have m10 : ∀ W, (Instr.index 115 (.agg #[.float .f64 0, .float .f64 4616189618054758400, .float .f64 0, .float .f64 0]) (.int .i64 2)).run Tryz.prog W = .ok (.float .f64 0) W := fun W => by kernel_rfl
  have m11 : ∀ W, (Instr.index 115 (.agg #[.float .f64 0, .float .f64 4616189618054758400, .float .f64 0, .float .f64 0]) (.int .i64 3)).run Tryz.prog W = .ok (.float .f64 0) W := fun W => by kernel_rfl
  go_enter Tryz.func44, Tryz.ntmps44
  go_wp2
  go_loop [67] (fun i => ∃ k : Nat, k ≤ 4 ∧ i = .int .i64 k) (fun i => 4 - (intOf i).toNat)
  case atStart => exact ⟨0, by omega, rfl⟩
  case round =>
    obtain ⟨k, hk, rfl⟩ := hrel
    by_cases hlt : k < 4
    · have hkc : k = 0 ∨ k = 1 ∨ k = 2 ∨ k = 3 := by omega
      clear hlt hk
      rcases hkc with rfl | rfl | rfl | rfl
      all_goals
        go_wp2_with (go_at_call 69; first | ((with_reducible refine (whole_at fl_0 _).mono ?_); rintro e w' ⟨rfl, rfl⟩) | ((with_reducible refine (whole_at fl_4 _).mono ?_); rintro e w' ⟨rfl, rfl⟩))
        first | exact ⟨⟨1, by omega, rfl⟩, by simp [intOf]⟩ | exact ⟨⟨2, by omega, rfl⟩, by simp [intOf]⟩ | exact ⟨⟨3, by omega, rfl⟩, by simp [intOf]⟩ | exact ⟨⟨4, by omega, rfl⟩, by simp [intOf]⟩
    · have hke : k = 4 := by omega
      subst hke
      clear hlt hk
      go_wp2
      go_quiet ((go_at_call 62; exact Calls.quiet_of_same ((fits_at fl_m4 fl_0 _).mono fun _ _ h => ⟨h.1, h.2.symm⟩)))
      go_wp2
      go_ret2
      exact ⟨rfl, (Drawn0.refl _).step _⟩
end Go.Proofs.YtlmkgghpaaadhaaGreatDoor.G

/- weigh: what a row's cut weighs, by complex numbers. -/
set_option linter.unusedVariables false
set_option linter.unusedSimpArgs false
namespace Go.Proofs.YtlmkgghpaaadhaaGreatDoor.G
open Go.RowKit Go.Proofs.YtlmkgghpaaadhaaGreatDoorW.PrintWords Go.Proofs.YtlmkgghpaaadhaaGreatDoorW.PrintLast Go.Proofs.YtlmkgghpaaadhaaGreatDoorW.PrintMore
/-- A complex number, by the signs of its parts. -/
abbrev Cx := Nat × Nat
abbrev KC : Kd Cx := Kd.scalar (fun p : Cx => Value.complex .f64 p.1 p.2) (fun _ => rfl)
def rdC (l : List Cx) (i : Int) : Cx := rdOf ((0, 0) : Cx) l i
theorem at_cx {w w1 : World} {A : Option Addr} {n : Nat} {xs : List Cx} (h : Kd.C KC w A n xs) (hb : Below w.heap.size w w1) (i : Int) (h0 : 0 ≤ i) (h1 : i < n) : ∃ ad, A = some ad ∧ w1.cell? (ad.add i.toNat) = some (.complex .f64 (rdC xs i).1 (rdC xs i).2) := by
  obtain ⟨ad, e, hx⟩ := ReadsOf.at_ (Kd.reads_of_C (enc := fun p : Cx => Value.complex .f64 p.1 p.2) (d := ((0, 0) : Cx)) (h1 := fun _ => rfl) h) i h0 h1
  exact ⟨ad, e, (hb.cell (World.block_lt_of_cell? w _ hx)).trans hx⟩
/-- Rows that weigh something, to be read. -/
structure WRdC (W : World) (A : Option Addr) (c : Nat) (sc : List Int) (A' : Option Addr) (c' : Nat) (L : List (List Int)) (Aw : Option Addr) (cw : Nat) (ws : List Cx) : Prop where
  rel : RelRd W A c sc A' c' L
  w : Kd.C KC W Aw ws.length ws
  cap : ws.length ≤ cw
theorem WRdC.step {W W1 : World} {A : Option Addr} {c : Nat} {sc : List Int} {A' : Option Addr} {c' : Nat} {L : List (List Int)} {Aw : Option Addr} {cw : Nat} {ws : List Cx} (h : WRdC W A c sc A' c' L Aw cw ws) (hb : Below W.heap.size W W1) : WRdC W1 A c sc A' c' L Aw cw ws :=
  ⟨h.rel.step hb, Kd.C_below h.w hb, h.cap⟩
def weightOfC (sc : List Int) (L : List (List Int)) (ws : List Cx) (scheme t : List Int) : Cx :=
  if pick t (sc.map (idx scheme)) ∈ L ∧ pos L (pick t (sc.map (idx scheme))) < ws.length then rdC ws (pos L (pick t (sc.map (idx scheme))) : Int) else (0, 0)
set_option maxHeartbeats 8000000 in
set_option maxRecDepth 100000 in
theorem weight_anyC {A : Option Addr} {c : Nat} {sc : List Int} {A' : Option Addr} {c' : Nat} {L : List (List Int)} {Aw : Option Addr} {cw : Nat} {ws : List Cx} {As : Option Addr} {cs : Nat} {scheme : List Int} {At : Option Addr} {ct : Nat} {t : List Int} {w : World}
    (h : WRdC w A c sc A' c' L Aw cw ws) (hs : Kd.C KI w As scheme.length scheme) (ht : Kd.C KI w At t.length t) (hm : sc.length ≤ 1000000) (hm1 : L.length ≤ 1000000000) (ho : Ord L) {r : Cx} (hr : weightOfC sc L ws scheme t = r) :
    Calls Tryz.prog 72 #[.agg #[.slice A sc.length c, .slice A' L.length c', .slice Aw ws.length cw], .slice As scheme.length cs, .slice At t.length ct] w fun e w' => e = .returned (.complex .f64 r.1 r.2) ∧ Below w.heap.size w w' := by
  have HR := Aside0.mk (And.intro h (And.intro hs (And.intro ht ho)))
  have HRR := Aside0.mk hr
  have hmk := fun W => run_make_row' (P := Tryz.prog) 22 3 (.int .i64 0) 8 Tryz.underlying22 infoInt rfl .i64 .i64 sc.length (by omega) (by omega) W
  clear h hs ht ho hr
  have hk0 := heap_alloc_new w (.cells #[.slice A sc.length c, .slice A' L.length c', .slice Aw ws.length cw] 48)
  obtain ⟨q0, q1, q2⟩ := blk3_c hk0
  have HK0 := Aside0.mk hk0
  clear hk0
  go_enter Tryz.func72, Tryz.ntmps72
  go_wp2
  clear hmk
  obtain ⟨W0, hW0⟩ : ∃ W0, (w.alloc (.cells #[.slice A sc.length c, .slice A' L.length c', .slice Aw ws.length cw] 48)).alloc (.cells (madeCells #[.int .i64 0] sc.length) 3) = W0 := ⟨_, rfl⟩
  have hb0 : Below w.heap.size w W0 := by rw [← hW0]; exact below_alloc (below_alloc (Below.refl _ _) _) _
  have hI0 : IntsAt W0 (w.heap.size + 1) (madeCells #[.int .i64 0] sc.length) (sc.map (idx scheme)) 0 := ⟨by rw [← hW0]; have := heap_alloc_new (w.alloc (.cells #[.slice A sc.length c, .slice A' L.length c', .slice Aw ws.length cw] 48)) (.cells (madeCells #[.int .i64 0] sc.length) 3); rwa [World.size_alloc] at this, by simp [madeCells], fun j hj => by omega⟩
  have hX0 : W0.heap[w.heap.size]? = some (.cells #[.slice A sc.length c, .slice A' L.length c', .slice Aw ws.length cw] 48 (0, 0)) := by rw [← hW0]; exact (Below.heap_alloc _ _ _ (by simp)).trans HK0.out
  rw [hW0]
  have HL0 := Aside0.mk (And.intro hb0 (And.intro hI0 hX0))
  clear hb0 hI0 hX0 hW0 q0 q1 q2 HK0
  go_loopw [21] (fun i W => ∃ (k : Nat) (cur : Array Value), k ≤ sc.length ∧ i = .int .i64 k ∧ Aside0 (Below w.heap.size w W ∧ IntsAt W (w.heap.size + 1) cur (sc.map (idx scheme)) k ∧ W.heap[w.heap.size]? = some (.cells #[.slice A sc.length c, .slice A' L.length c', .slice Aw ws.length cw] 48 (0, 0)))) (fun i _ => sc.length - (intOf i).toNat)
  case atStart => exact ⟨0, _, Nat.zero_le _, rfl, HL0⟩
  case round =>
    obtain ⟨k, cur, hk, rfl, HL⟩ := hrel
    by_cases hlt : k < sc.length
    · obtain ⟨ad, rfl, hx⟩ := at_int' HR.out.1.rel.row HL.out.1 k (by omega) (by omega)
      simp only [Int.toNat_natCast] at hx
      have hcell := HL.out.2.1.cell k (by simpa using hlt)
      have hfr := HL.out.2.1.frozen k
      have hkl : (k : Int) < (sc.length : Int) := by omega
      have hcl : ∀ x, Calls Tryz.prog 74 #[.slice As scheme.length cs, .int .i64 x] wr fun e w' => e = .returned (.int .i64 (idx scheme x)) ∧ wr = w' := fun x => slices_Index_any As cs scheme x wr (Kd.C_below HR.out.2.1 HL.out.1)
      have hrm := Aside0.mk (rd_map sc (idx scheme) k hlt)
      have hml := Aside0.mk (show k < (sc.map (idx scheme)).length by simpa using hlt)
      go_wp2_with (go_at_call 74; refine (hcl _).mono ?_; rintro e w1 ⟨rfl, rfl⟩)
      go_roundw
      case measure => simp [intOf]; omega
      case rel =>
        refine ⟨k + 1, cur.setIfInBounds k (.int .i64 (idx scheme (rd sc k))), by omega, by go_num, ⟨HL.out.1.setCell (p := ⟨w.heap.size + 1, k, none⟩) (Nat.le_succ _) _, ?_, ?_⟩⟩
        · rw [← hrm.out]; exact HL.out.2.1.push hml.out
        · exact (Below.heap_setCell _ _ _ _ (by simp)).trans HL.out.2.2
    · have hke : k = sc.length := by omega
      subst hke
      obtain ⟨ps, hps⟩ : ∃ ps, sc.map (idx scheme) = ps := ⟨_, rfl⟩
      have hpl : ps.length = sc.length := by rw [← hps, List.length_map]
      have hR := IntsAt.row (base := w.heap.size) (xs := sc.map (idx scheme)) (by simpa using HL.out.2.1) (Nat.le_succ _) (by simpa using (by omega : sc.length ≤ 1000000000))
      rw [hps, hpl] at hR
      have hPC := (Kd.R_reads' hR).2.2
      have e1 : (sc.length : Nat) = ps.length := hpl.symm
      have HPC := Aside0.mk (show Kd.C KI wr (some ⟨w.heap.size + 1, 0, none⟩) ps.length ps from hPC)
      have HPS := Aside0.mk hps
      obtain ⟨q0, q1, q2⟩ := blk3_c HL.out.2.2
      have HSD := Aside0.mk (show wr.drew.cell? ⟨w.heap.size, 1, none⟩ = some (.slice A' L.length c') ∧ Below wr.heap.size wr wr.drew from ⟨q1, below_drew (Below.refl _ _)⟩)
      have HWO := Aside0.mk (show weightOfC sc L ws scheme t = if pick t ps ∈ L ∧ pos L (pick t ps) < ws.length then rdC ws (pos L (pick t ps) : Int) else (0, 0) from by rw [weightOfC, hps])
      obtain ⟨key, hkey⟩ : ∃ key, pick t ps = key := ⟨_, rfl⟩
      obtain ⟨p, hp⟩ : ∃ p, pos L key = p := ⟨_, rfl⟩
      obtain ⟨b, hb⟩ : ∃ b, decide (key ∈ L) = b := ⟨_, rfl⟩
      have HFD := Aside0.mk (fun (W : World) (Ak : Option Addr) (ck : Nat) (h0 : Kd.C KL W A' L.length L) (h1 : Kd.C KI W Ak key.length key) => (show Calls Tryz.prog 75 #[.slice A' L.length c', .slice Ak key.length ck] W fun e w' => e = .returned (.tuple #[.int .i64 (p : Int), .bool b]) ∧ Drawn0 W w' from by rw [← hb, ← hp]; exact tuple_Find_any A' c' L Ak ck key W h0 h1 hm1 HR.out.2.2.2))
      have HPK := Aside0.mk (fun (W : World) (h0 : Kd.C KI W At t.length t) (h1 : Kd.C KI W (some ⟨w.heap.size + 1, 0, none⟩) ps.length ps) => (show Calls Tryz.prog 76 #[.slice At t.length ct, .slice (some ⟨w.heap.size + 1, 0, none⟩) sc.length sc.length] W fun e w' => ∃ v, e = .returned v ∧ Kd.R KI 3 w' W.heap.size AnyB v key ∧ Below W.heap.size W w' from by rw [← hkey, ← e1.symm]; exact tuple_Pick_any At ct t _ _ ps W h0 h1 (by omega)))
      rw [hkey, hp] at HWO
      have HBB := Aside0.mk hb
      clear hR hPC hps hpl e1 hkey hp hb
      go_wp2_with fail
      go_region_held3 (fun W => W.cell? ⟨w.heap.size, 1, none⟩ = some (.slice A' L.length c') ∧ Below wr.heap.size wr W)
        (first | with_reducible exact HS2.out | with_reducible exact HS1.out | with_reducible exact HSD.out)
        (first
          | (have hgd := HS1; clear hgd; go_at_call 75; refine (HFD.out _ _ _ (Kd.C_below HR.out.1.rel.rows HB2.out) HC5.out).mono ?_; rintro e w3 ⟨rfl, hd3⟩; have HB3 := Aside0.mk (below_then HB2.out HB2.out.size hd3.below); have HS2 := Aside0.mk (And.intro ((hd3.below.cell (World.block_lt_of_cell? _ _ HS1.out.1)).trans HS1.out.1) (below_then HS1.out.2 HS1.out.2.size hd3.below)); have HX3 := Aside0.mk ((HS2.out.2.block _ (Array.getElem?_eq_some_iff.1 HL.out.2.2).1).trans HL.out.2.2); clear hd3)
          | (go_at_call 76; refine (HPK.out _ (Kd.C_below HR.out.2.2.1 (below_drew HL.out.1)) (Kd.C_below HPC.out (below_drew (Below.refl _ _)))).mono ?_; rintro e w2 ⟨v2, rfl, hv2, hb2⟩; obtain ⟨A5, c5, rfl, _, hC5⟩ := Kd.R_reads hv2; have HB2 := Aside0.mk (below_then (below_drew HL.out.1) (by exact (below_drew HL.out.1).size) hb2); have HC5 := Aside0.mk hC5; have HS1 := Aside0.mk (And.intro ((hb2.cell (World.block_lt_of_cell? _ _ HSD.out.1)).trans HSD.out.1) (below_then HSD.out.2 HSD.out.2.size hb2)); clear hv2 hb2 hC5))
      obtain ⟨q3, q4, q5⟩ := blk3_c HX3.out
      have hps : (0 : Int) ≤ (p : Int) := by omega
      have hwm : ws.length ≤ 9223372036854775807 := HR.out.1.w.2.1
      cases b with
      | false =>
        go_wp2
        go_ret
        exact ⟨by rw [← HRR.out, HWO.out, if_neg (fun h => of_decide_eq_false HBB.out h.1)]; rfl, HB3.out⟩
      | true =>
        by_cases hpl : p < ws.length
        · have hpi : (p : Int) < (ws.length : Int) := by omega
          obtain ⟨adw, rfl, hxw⟩ := at_cx HR.out.1.w HB3.out (p : Int) (by omega) hpi
          simp only [Int.toNat_natCast] at hxw
          go_wp2
          go_ret
          exact ⟨by rw [← HRR.out, HWO.out, if_pos ⟨of_decide_eq_true HBB.out, hpl⟩]; rfl, HB3.out⟩
        · have hpi : decide ((p : Int) < (ws.length : Int)) = false := decide_eq_false (by omega)
          have hpn : decide (p < ws.length) = false := decide_eq_false (by omega)
          have HPL := Aside0.mk hpl
          clear hpl
          go_wp2
          go_ret
          exact ⟨by rw [← HRR.out, HWO.out, if_neg (fun h => by have := HPL.out; omega)]; rfl, HB3.out⟩
end Go.Proofs.YtlmkgghpaaadhaaGreatDoor.G

/- weigh: rows that go together, and what they weigh, by complex numbers. -/
set_option linter.unusedVariables false
set_option linter.unusedSimpArgs false
namespace Go.Proofs.YtlmkgghpaaadhaaGreatDoor.G
open Go.RowKit Go.Proofs.YtlmkgghpaaadhaaGreatDoorW.PrintWords Go.Proofs.YtlmkgghpaaadhaaGreatDoorW.PrintLast Go.Proofs.YtlmkgghpaaadhaaGreatDoorW.PrintMore
theorem infoInt64C : (Tryz.prog.info? 51).map (fun i => (i.zero, i.size, i.bytes)) = some (some (.complex .f64 0 0), 1, 16) := by kernel_rfl
/-- append of one weight, and where the new row lies. -/
theorem app_wC {ops : Array Oper} {rest : List Oper} {o : Oper} {a : Act} {Q : Exit → Act → World → Prop} {w W : World} (base : Nat) (ok : Nat → Prop) (hgd : o.guard = none) (s x : Operand) (ho : o.op = .call { callee := .builtin .append, args := #[s, x], argTypes := #[46, 46] })
    (v : Value) (xs : List Cx) (y : Cx) (hs : a.eval s = v) (hx : a.eval x = .slice (some ⟨W.heap.size, 0, none⟩) 1 1) (hok : ∀ k, W.heap.size ≤ k → ok k)
    (HO : Kd.R KC 51 W base ok v xs) (HB : Below base w W) (hbase : base ≤ W.heap.size) (hl : xs.length < 1759218604441)
    (h : ∀ v1 w1, Aside0 (Kd.R KC 51 w1 base ok v1 (xs ++ [y])) → Aside0 (Below base w w1) → Aside0 (W.grownBy w1 v.ownBlock ∧ (v1.ownBlock = v.ownBlock ∨ ∃ b, v1.ownBlock = some b ∧ W.heap.size ≤ b)) → wpList Tryz.prog ops Q rest (a.put o.dst v1) w1) :
    wpList Tryz.prog ops Q (o :: rest) a (W.alloc (.cells #[.complex .f64 y.1 y.2] 51)) :=
  Kd.R_append KC base hgd s x 46 51 (.complex .f64 0 0) 16 ho Tryz.underlying46 infoInt64C rfl (by decide) (by omega) v xs y [.complex .f64 y.1 y.2] ok (fun _ => False) hs hx rfl (fun _ hk => hk.elim) hok
    HO HB hbase (by omega) (fun v1 w1 ho hb hg hat => h v1 w1 ⟨ho⟩ ⟨hb⟩ ⟨hg, hat⟩)
/-- What is made: two rows that stay, and a row of weights. -/
structure WOutC (w4 : World) (a b s : Value) (xs : List Cx) (W : World) : Prop where
  bel : Below w4.heap.size w4 W
  blk : W.heap[w4.heap.size]? = some (.cells #[a, b, s] 48 (0, 0))
  row : Kd.R KC 51 W w4.heap.size (fun k => w4.heap.size < k) s xs
theorem WOutC.new (w4 : World) (a b : Value) : WOutC w4 a b (.slice none 0 0) [] (w4.alloc (.cells #[a, b, .slice none 0 0] 48)) :=
  ⟨below_alloc (Below.refl _ _) _, heap_alloc_new w4 _, Kd.R_nil _ _ _ _ _⟩
theorem WOutC.step {w4 W W1 : World} {a b s : Value} {xs : List Cx} (h : WOutC w4 a b s xs W) (hb : Below W.heap.size W W1) : WOutC w4 a b s xs W1 :=
  ⟨below_then h.bel h.bel.size hb, (hb.block _ (Array.getElem?_eq_some_iff.1 h.blk).1).trans h.blk, Kd.R_below h.row hb⟩
theorem WOutC.at2 {w4 W w1 : World} {a b s : Value} {xs : List Cx} (h : WOutC w4 a b s xs W) (hg : W.grownBy w1 s.ownBlock) : w1.heap[w4.heap.size]? = some (.cells #[a, b, s] 48 (0, 0)) :=
  (hg.block _ (Array.getElem?_eq_some_iff.1 h.blk).1 (fun e => by have := h.row.1 _ e.symm; omega)).trans h.blk
theorem WOutC.push {w4 W w1 : World} {a b s v1 : Value} {xs ys : List Cx} (h : WOutC w4 a b s xs W) (hg : W.grownBy w1 s.ownBlock) (hR : Kd.R KC 51 w1 w4.heap.size (fun k => w4.heap.size < k) v1 ys) :
    WOutC w4 a b v1 ys (w1.setCell ⟨w4.heap.size, 2, none⟩ v1) :=
  ⟨(pw_below_grown h.bel _ h.bel.size hg (fun k e => Nat.le_of_lt (h.row.1 k e))).setCell (p := ⟨w4.heap.size, 2, none⟩) (Nat.le_refl _) v1, blk3_s2 (h.at2 hg) v1, Kd.R_far hR (p := ⟨w4.heap.size, 2, none⟩) (fun k hk => by show k ≠ w4.heap.size; omega) v1⟩
abbrev WFC := Cx → Cx → Cx × Bool
def wRowC (f : WFC) (sa : List Int) (La : List (List Int)) (wa : List Cx) (sb : List Int) (Lb : List (List Int)) (wb : List Cx) (t : List Int) : Cx × Bool := f (weightOfC sa La wa (uni sa sb) t) (weightOfC sb Lb wb (uni sa sb) t)
/-- Relations that weigh something. -/
structure WRelC where
  sc : List Int
  L : List (List Int)
  ws : List Cx
def joinedToC (f : WFC) (a b : WRelC) (most : Int) : WRelC × Int :=
  if ((joinRows a.sc a.L b.sc b.L).length : Int) ≤ most then
    (if ∀ t ∈ joinRows a.sc a.L b.sc b.L, (wRowC f a.sc a.L a.ws b.sc b.L b.ws t).2 = true then (⟨uni a.sc b.sc, joinRows a.sc a.L b.sc b.L, (joinRows a.sc a.L b.sc b.L).map fun t => (wRowC f a.sc a.L a.ws b.sc b.L b.ws t).1⟩, 0) else (⟨[], [], []⟩, 11))
  else (⟨[], [], []⟩, 9)
/-- Rows that weigh something, of a call's own. -/
structure WMkC (W : World) (base : Nat) (A : Option Addr) (c : Nat) (A' : Option Addr) (c' : Nat) (Aw : Option Addr) (cw : Nat) (r : WRelC) : Prop where
  rel : RelM W base (.agg #[.slice A r.sc.length c, .slice A' r.L.length c']) (r.sc, r.L)
  w : Kd.R KC 51 W base (fun k => base ≤ k) (.slice Aw r.ws.length cw) r.ws
theorem WMkC.rd {W : World} {base : Nat} {A : Option Addr} {c : Nat} {A' : Option Addr} {c' : Nat} {Aw : Option Addr} {cw : Nat} {r : WRelC} (h : WMkC W base A c A' c' Aw cw r) : WRdC W A c r.sc A' c' r.L Aw cw r.ws :=
  ⟨RelM.rd' h.rel, (Kd.R_reads' h.w).2.2, (Kd.R_reads' h.w).2.1⟩
theorem WMkC.lower {W : World} {base base' : Nat} {A : Option Addr} {c : Nat} {A' : Option Addr} {c' : Nat} {Aw : Option Addr} {cw : Nat} {r : WRelC} (h : WMkC W base A c A' c' Aw cw r) (hb : base' ≤ base) : WMkC W base' A c A' c' Aw cw r :=
  ⟨h.rel.lower hb, Kd.R_lower (Kd.R_mono h.w (fun k hk => Nat.le_trans hb hk)) hb⟩
theorem WMkC.below {W W1 : World} {base : Nat} {A : Option Addr} {c : Nat} {A' : Option Addr} {c' : Nat} {Aw : Option Addr} {cw : Nat} {r : WRelC} (h : WMkC W base A c A' c' Aw cw r) (hb : Below W.heap.size W W1) : WMkC W1 base A c A' c' Aw cw r :=
  ⟨h.rel.below hb, Kd.R_below h.w hb⟩
theorem WMkC.far {W : World} {base : Nat} {A : Option Addr} {c : Nat} {A' : Option Addr} {c' : Nat} {Aw : Option Addr} {cw : Nat} {r : WRelC} (h : WMkC W base A c A' c' Aw cw r) {p : Addr} (hp : p.block < base) (u : Value) : WMkC (W.setCell p u) base A c A' c' Aw cw r :=
  ⟨h.rel.far hp u, Kd.R_far h.w (fun k hk => by have : base ≤ k := hk; omega) u⟩
theorem WMkC.none (W : World) (base : Nat) : WMkC W base none 0 none 0 none 0 ⟨[], [], []⟩ := ⟨RelM.none_ _ _, Kd.R_nil _ _ _ _ _⟩
/-- A call's answer: rows that weigh something, and an error's number. -/
def WOkC (w w' : World) (e : Ending) (r : WRelC) (n : Int) : Prop := ∃ A c A' c' Aw cw, e = .returned (.tuple #[.agg #[.slice A r.sc.length c, .slice A' r.L.length c', .slice Aw r.ws.length cw], .int .i64 n]) ∧ WMkC w' w.heap.size A c A' c' Aw cw r ∧ Below w.heap.size w w'
/-- Three boxes of a call's own. -/
structure Bx3C (w W : World) (a0 a1 a2 b0 b1 b2 : Value) : Prop where
  bel : Below w.heap.size w W
  a : W.heap[w.heap.size]? = some (.cells #[a0, a1, a2] 48 (0, 0))
  b : W.heap[w.heap.size + 1]? = some (.cells #[b0, b1, b2] 48 (0, 0))
  c : ∃ x y z, W.heap[w.heap.size + 1 + 1]? = some (.cells #[x, y, z] 48 (0, 0))
theorem Bx3C.new (w : World) (a0 a1 a2 b0 b1 b2 x y z : Value) : Bx3C w (((w.alloc (.cells #[a0, a1, a2] 48)).alloc (.cells #[b0, b1, b2] 48)).alloc (.cells #[x, y, z] 48)) a0 a1 a2 b0 b1 b2 := by
  have h1 := heap_alloc_new w (.cells #[a0, a1, a2] 48)
  have h2 := heap_alloc_new (w.alloc (.cells #[a0, a1, a2] 48)) (.cells #[b0, b1, b2] 48)
  have h3 := heap_alloc_new ((w.alloc (.cells #[a0, a1, a2] 48)).alloc (.cells #[b0, b1, b2] 48)) (.cells #[x, y, z] 48)
  simp only [World.size_alloc] at h2 h3
  exact ⟨below_alloc (below_alloc (below_alloc (Below.refl _ _) _) _) _, (Below.heap_alloc _ _ _ (by simp; omega)).trans ((Below.heap_alloc _ _ _ (by simp)).trans h1), (Below.heap_alloc _ _ _ (by simp)).trans h2, x, y, z, h3⟩
theorem Bx3C.step {w W W1 : World} {a0 a1 a2 b0 b1 b2 : Value} (h : Bx3C w W a0 a1 a2 b0 b1 b2) (hb : Below W.heap.size W W1) : Bx3C w W1 a0 a1 a2 b0 b1 b2 :=
  ⟨below_then h.bel h.bel.size hb, (hb.block _ (Array.getElem?_eq_some_iff.1 h.a).1).trans h.a, (hb.block _ (Array.getElem?_eq_some_iff.1 h.b).1).trans h.b, by
    obtain ⟨x, y, z, hc⟩ := h.c
    exact ⟨x, y, z, (hb.block _ (Array.getElem?_eq_some_iff.1 hc).1).trans hc⟩⟩
section
variable {A : Option Addr} {c : Nat} {A' : Option Addr} {c' : Nat} {Aw : Option Addr} {cw : Nat} {B : Option Addr} {d : Nat} {B' : Option Addr} {d' : Nat} {Bw : Option Addr} {dw : Nat} {a b : WRelC} {w : World}

set_option maxHeartbeats 8000000 in
set_option maxRecDepth 100000 in
theorem joined_timesC (h : WRdC w A c a.sc A' c' a.L Aw cw a.ws) (ht : Rt a.sc a.L) (h' : WRdC w B d b.sc B' d' b.L Bw dw b.ws) (ht' : Rt b.sc b.L) (hm : a.sc.length ≤ 1000000) (hm' : b.sc.length ≤ 1000000) (most : Int) (htab : Tab w) (F0 : WFC) (hF : ∀ (W : World) (t : List Int), t ∈ joinRows a.sc a.L b.sc b.L → Calls Tryz.prog 44 #[.complex .f64 (weightOfC a.sc a.L a.ws (uni a.sc b.sc) t).1 (weightOfC a.sc a.L a.ws (uni a.sc b.sc) t).2, .complex .f64 (weightOfC b.sc b.L b.ws (uni a.sc b.sc) t).1 (weightOfC b.sc b.L b.ws (uni a.sc b.sc) t).2] W fun e w' => e = .returned (.tuple #[.complex .f64 (wRowC F0 a.sc a.L a.ws b.sc b.L b.ws t).1.1 (wRowC F0 a.sc a.L a.ws b.sc b.L b.ws t).1.2, .bool (wRowC F0 a.sc a.L a.ws b.sc b.L b.ws t).2]) ∧ Drawn0 W w') {r : WRelC} {n : Int} (hr : joinedToC F0 a b most = (r, n)) :
    Calls Tryz.prog 43 #[.agg #[.slice A a.sc.length c, .slice A' a.L.length c', .slice Aw a.ws.length cw], .agg #[.slice B b.sc.length d, .slice B' b.L.length d', .slice Bw b.ws.length dw], .int .i64 most, .func (.func 44) #[] #[]] w fun e w' => WOkC w w' e r n := by
  have HR := Aside0.mk (And.intro h (And.intro h' (And.intro ht ht')))
  have HW := Aside0.mk hF
  have HT := Aside0.mk htab
  have HRR := Aside0.mk hr
  have hx0 := Bx3C.new w (.slice A a.sc.length c) (.slice A' a.L.length c') (.slice Aw a.ws.length cw) (.slice B b.sc.length d) (.slice B' b.L.length d') (.slice Bw b.ws.length dw) (.slice none 0 0) (.slice none 0 0) (.slice none 0 0)
  obtain ⟨W0, hW0⟩ : ∃ W0, ((w.alloc (.cells #[.slice A a.sc.length c, .slice A' a.L.length c', .slice Aw a.ws.length cw] 48)).alloc (.cells #[.slice B b.sc.length d, .slice B' b.L.length d', .slice Bw b.ws.length dw] 48)).alloc (.cells #[.slice none 0 0, .slice none 0 0, .slice none 0 0] 48) = W0 := ⟨_, rfl⟩
  rw [hW0] at hx0
  have hlo : w.heap.size + 1 + 1 < W0.heap.size := by
    obtain ⟨x, y, z, hC⟩ := hx0.c
    exact (Array.getElem?_eq_some_iff.1 hC).1
  have HLO := Aside0.mk hlo
  obtain ⟨q0, q1, q2⟩ := blk3_c hx0.a
  obtain ⟨q3, q4, q5⟩ := blk3_c hx0.b
  have H0 := Aside0.mk hx0
  clear h h' ht ht' hF hr htab hx0 hlo
  obtain ⟨U, hU⟩ : ∃ U, uni a.sc b.sc = U := ⟨_, rfl⟩
  obtain ⟨J, hJ⟩ : ∃ J, joinRows a.sc a.L b.sc b.L = J := ⟨_, rfl⟩
  obtain ⟨F, hF⟩ : ∃ F, wRowC F0 a.sc a.L a.ws b.sc b.L b.ws = F := ⟨_, rfl⟩
  have HJL := Aside0.mk (show J.length ≤ 400000000 from by rw [← hJ]; exact Nat.le_trans (join_len_le _ _ _ _) (Nat.mul_le_mul HR.out.2.2.1.l HR.out.2.2.2.l))
  have HU := Aside0.mk (And.intro hU (And.intro hJ hF))
  have HJT := Aside0.mk (show joinedToC F0 a b most = if (J.length : Int) ≤ most then (if ∀ t ∈ J, (F t).2 = true then (⟨U, J, J.map fun t => (F t).1⟩, 0) else (⟨[], [], []⟩, 11)) else (⟨[], [], []⟩, 9) from by rw [← hU, ← hJ, ← hF]; rfl)
  clear hU hJ hF
  by_cases hfit : (J.length : Int) ≤ most
  · have HJO := Aside0.mk (fun (W : World) (h : RelRd W A c a.sc A' c' a.L) (h' : RelRd W B d b.sc B' d' b.L) (ht : Tab W) => join_m (r := (U, J)) (n := 0) h HR.out.2.2.1 h' HR.out.2.2.2 most ht (by rw [joinAt, HU.out.2.1, HU.out.1, if_pos hfit]) (by rw [joinEr, HU.out.2.1, if_pos hfit]))
    have HJF := Aside0.mk (show (if ∀ t ∈ J, (F t).2 = true then ((⟨U, J, J.map fun t => (F t).1⟩ : WRelC), (0 : Int)) else (⟨[], [], []⟩, 11)) = (r, n) from by rw [← HRR.out, HJT.out, if_pos hfit])
    clear hfit HRR HJT
    go_enter Tryz.func43, Tryz.ntmps43
    go_wp2_with (go_at_call 66; refine (HJO.out _ (HR.out.1.rel.step H0.out.bel) (HR.out.2.1.rel.step H0.out.bel) (HT.out.step H0.out.bel)).mono ?_; rintro e w1 ⟨A2, c2, A3, c3, rfl, hM, hb1⟩; have HM := Aside0.mk hM; have HB1 := Aside0.mk hb1; clear hM hb1)
    clear q0 q1 q2 q3 q4 q5 hW0
    obtain ⟨w4, hw4⟩ : ∃ w4, w1.alloc (.cells #[.slice A2 U.length c2, .slice A3 J.length c3] 31) = w4 := ⟨_, rfl⟩
    have hg4 : w4.heap.size = w1.heap.size + 1 := by rw [← hw4]; simp
    have hr4 : w4.heap[w1.heap.size]? = some (.cells #[.slice A2 U.length c2, .slice A3 J.length c3] 31 (0, 0)) := by rw [← hw4]; exact heap_alloc_new w1 _
    have hb4 : Below w1.heap.size w1 w4 := by rw [← hw4]; exact below_alloc (Below.refl _ _) _
    have H4 := Aside0.mk (And.intro hr4 (And.intro ((H0.out.step HB1.out).step hb4) (HM.out.rd'.step hb4)))
    have HZ4 := Aside0.mk (And.intro (show w.heap.size + 1 + 1 < w4.heap.size from by have := HB1.out.size; have := HLO.out; omega) (show w1.heap.size < w4.heap.size from by omega))
    have HT4 := Aside0.mk ((HT.out.step H0.out.bel).step (below_then HB1.out HB1.out.size hb4))
    have HWO := Aside0.mk (WOutC.new w4 (.slice A2 U.length c2) (.slice A3 J.length c3))
    have hJm : J.length ≤ 9223372036854775807 := HM.out.rd'.rows.2.1
    simp only [hw4, ← hg4]
    generalize w4.alloc (.cells #[.slice A2 U.length c2, .slice A3 J.length c3, .slice none 0 0] 48) = W5 at HWO ⊢
    have HB14 := Aside0.mk hb4
    clear hw4 hb4 hr4
    obtain ⟨g, hg⟩ : ∃ g, w4.heap.size = g := ⟨_, rfl⟩
    obtain ⟨g1, hg1⟩ : ∃ g1, w1.heap.size = g1 := ⟨_, rfl⟩
    have HG := Aside0.mk (And.intro hg hg1)
    rw [hg, hg1]
    rw [hg1] at H4
    clear hg hg1 hg4
    go_loopw [35] (fun i W => ∃ (k : Nat) (s : Value) (M : List Cx), k ≤ J.length ∧ i = .int .i64 k ∧ Aside0 (∀ t ∈ J.take k, (F t).2 = true) ∧ Aside0 (((J.take k).map fun t => (F t).1) = M) ∧ Aside0 (WOutC w4 (.slice A2 U.length c2) (.slice A3 J.length c3) s M W)) (fun i _ => J.length - (intOf i).toNat)
    case atStart => exact ⟨0, _, [], Nat.zero_le _, rfl, ⟨by simp⟩, ⟨rfl⟩, HWO⟩
    case round =>
      clear HWO
      obtain ⟨k, s, M, hk, rfl, HOK, HMM, HO⟩ := hrel
      obtain ⟨As, cs, rfl, hcs, hCs⟩ := Kd.R_reads HO.out.row
      have HCS := Aside0.mk (And.intro hcs hCs)
      clear hcs hCs
      have HBX := Aside0.mk (H4.out.2.1.step HO.out.bel)
      have hbr := (HO.out.bel.block _ (Array.getElem?_eq_some_iff.1 H4.out.1).1).trans H4.out.1
      have hrd := H4.out.2.2.step HO.out.bel
      have HRD := Aside0.mk hrd
      obtain ⟨p0, p1, p2⟩ := blk3_c HBX.out.a
      obtain ⟨p3, p4, p5⟩ := blk3_c HBX.out.b
      have p6 := blk2_c0 hbr
      have p7 := blk2_c1 hbr
      clear hbr hrd
      by_cases hlt : k < J.length
      · have hkl : (k : Int) < (J.length : Int) := by omega
        obtain ⟨ad, Bx, cx, rfl, hx, _, hcx⟩ := at_row HRD.out.rows (Below.refl _ _) k hlt
        have HT1 := Aside0.mk (show (∀ t ∈ J.take (k + 1), (F t).2 = true) ↔ (∀ t ∈ J.take k, (F t).2 = true) ∧ (F (J.getD k [])).2 = true from by
          rw [List.take_succ_eq_append_getElem hlt, getD_get _ _ hlt]
          simp only [List.mem_append, List.mem_singleton]
          exact ⟨fun h => ⟨fun t ht => h t (.inl ht), h _ (.inr rfl)⟩, fun h t ht => ht.elim (h.1 t) (fun e => e ▸ h.2)⟩)
        have HT2 := Aside0.mk (map_take_getD (fun t => (F t).1) J k hlt)
        have HT3 := Aside0.mk (show J.getD k [] ∈ J from by rw [getD_get _ _ hlt]; exact List.getElem_mem hlt)
        obtain ⟨x, hxe⟩ : ∃ x, J.getD k [] = x := ⟨_, rfl⟩
        rw [hxe] at hx hcx HT1 HT2 HT3
        have HCX := Aside0.mk hcx
        obtain ⟨x1, hx1⟩ : ∃ v, weightOfC a.sc a.L a.ws U x = v := ⟨_, rfl⟩
        obtain ⟨x2, hx2⟩ : ∃ v, weightOfC b.sc b.L b.ws U x = v := ⟨_, rfl⟩
        have HX12 := Aside0.mk (And.intro hx1 (And.intro hx2 (show F x = F0 x1 x2 from by rw [← HU.out.2.2, wRowC, HU.out.1, hx1, hx2])))
        have hml : M.length ≤ k := by rw [← HMM.out, List.length_map, List.length_take]; omega
        have HLM := Aside0.mk hml
        have HC7 := Aside0.mk (C7.step (w1 := wr) ⟨p0, p1, p2, p3, p4, p5, p6, Below.refl _ _⟩ (below_drew (Below.refl _ _)))
        obtain ⟨y, ok, hyo⟩ : ∃ y ok, F0 x1 x2 = (y, ok) := ⟨_, _, rfl⟩
        have HFN := Aside0.mk (fun (W : World) => (show Calls Tryz.prog 44 #[.complex .f64 x1.1 x1.2, .complex .f64 x2.1 x2.2] W fun e w' => e = .returned (.tuple #[.complex .f64 y.1 y.2, .bool ok]) ∧ Drawn0 W w' from by
          have h := HW.out W x (by rw [HU.out.2.1]; exact HT3.out)
          rw [HU.out.1, HX12.out.1, HX12.out.2.1, HU.out.2.2, HX12.out.2.2, hyo] at h
          exact h))
        have HYO := Aside0.mk (show F x = (y, ok) from by rw [HX12.out.2.2, hyo])
        have eg := enters_of Tryz.func44 (by kernel_rfl) rfl
        clear hcx hxe hx1 hx2 hml hyo
        go_wp2_with fail
        clear p0 p1 p2 p3 p4 p5 p6 p7 hx
        go_region_held3 (fun W => W.cell? ⟨w.heap.size, 0, none⟩ = some (.slice A a.sc.length c) ∧ W.cell? ⟨w.heap.size, 1, none⟩ = some (.slice A' a.L.length c') ∧ W.cell? ⟨w.heap.size, 2, none⟩ = some (.slice Aw a.ws.length cw) ∧ W.cell? ⟨w.heap.size + 1, 0, none⟩ = some (.slice B b.sc.length d) ∧ W.cell? ⟨w.heap.size + 1, 1, none⟩ = some (.slice B' b.L.length d') ∧ W.cell? ⟨w.heap.size + 1, 2, none⟩ = some (.slice Bw b.ws.length dw) ∧ W.cell? ⟨g1, 0, none⟩ = some (.slice A2 U.length c2) ∧ Below wr.heap.size wr W)
          (first | with_reducible exact HS3.out | with_reducible exact HS2.out | with_reducible exact HS1.out | with_reducible exact HC7.out)
          (first
            | (have hgd := HS2; clear hgd; go_at_call 44; refine (HFN.out _).mono ?_; rintro e w7 ⟨rfl, hd7⟩; have HS3 := Aside0.mk (C7.step HS2.out hd7.below); clear hd7)
            | (have hgd := HS1; clear hgd; go_at_call 72; refine (weight_anyC (HR.out.2.1.step (below_then HBX.out.bel HBX.out.bel.size HS1.out.2.2.2.2.2.2.2)) (Kd.C_below HRD.out.row HS1.out.2.2.2.2.2.2.2) (Kd.C_below HCX.out HS1.out.2.2.2.2.2.2.2) hm' (by have := HR.out.2.2.2.l; omega) (ord_of_up HR.out.2.2.2.r.2.2) HX12.out.2.1).mono ?_; rintro e w6 ⟨rfl, hb6⟩; have HS2 := Aside0.mk (C7.step HS1.out hb6); clear hb6)
            | (go_at_call 72; refine (weight_anyC (HR.out.1.step (below_drew HBX.out.bel)) (Kd.C_below HRD.out.row (below_drew (Below.refl _ _))) (Kd.C_below HCX.out (below_drew (Below.refl _ _))) hm (by have := HR.out.2.2.1.l; omega) (ord_of_up HR.out.2.2.1.r.2.2) HX12.out.1).mono ?_; rintro e w5 ⟨rfl, hb5⟩; have HS1 := Aside0.mk (C7.step HC7.out hb5); clear hb5))
        have HB6 := Aside0.mk HS3.out.2.2.2.2.2.2.2
        have HO6 := Aside0.mk (HO.out.step HB6.out)
        have HBX6 := Aside0.mk (HBX.out.step HB6.out)
        clear HC7 HS1 HS2 HS3 HFN eg
        cases ok with
        | false =>
          obtain ⟨z0, z1, z2, hz⟩ := HBX6.out.c
          obtain ⟨⟨q0, q1⟩, ⟨q2, q3⟩, ⟨q4, q5⟩⟩ := blk3_put hz (.slice none 0 0) (.slice none 0 0) (.slice none 0 0)
          have hz3 := blk3_three hz (.slice none 0 0) (.slice none 0 0) (.slice none 0 0)
          obtain ⟨r0, r1, r2⟩ := blk3_c hz3
          clear hz hz3
          go_wp2
          refine bodyPost_ret (v := .tuple #[.agg #[.slice none 0 0, .slice none 0 0, .slice none 0 0], .int .i64 11]) (by simp [results, Tryz.results43, go_sem, r0, r1, r2]) rfl ?_
          have hno : ¬ ∀ t ∈ J, (F t).2 = true := fun h => by have h2 := h x HT3.out; rw [HYO.out] at h2; cases h2
          have e := HJF.out
          rw [if_neg hno] at e
          obtain ⟨rfl, rfl⟩ := Prod.mk.inj e
          exact ⟨none, 0, none, 0, none, 0, rfl, WMkC.none _ _, ((HBX6.out.bel.setCell (p := ⟨w.heap.size + 1 + 1, 0, none⟩) (show w.heap.size ≤ w.heap.size + 1 + 1 by omega) _).setCell (p := ⟨w.heap.size + 1 + 1, 1, none⟩) (show w.heap.size ≤ w.heap.size + 1 + 1 by omega) _).setCell (p := ⟨w.heap.size + 1 + 1, 2, none⟩) (show w.heap.size ≤ w.heap.size + 1 + 1 by omega) _⟩
        | true =>
          have p2 := (blk3_c HO6.out.blk).2.2
          rw [HG.out.1] at p2
          go_wp2_with (at_builtin; refine app_wC (w := w7) w4.heap.size (fun k => w4.heap.size < k) rfl (.tmp 58) (.tmp 60) rfl (.slice As M.length cs) M y rfl rfl (fun k hk => by have := (Array.getElem?_eq_some_iff.1 HO6.out.blk).1; omega) HO6.out.row (Below.refl _ _) HO6.out.bel.size (by have := HLM.out; have := HJL.out; omega) ?_; intro v1 w8 HV8 HB8 HG8; obtain ⟨A9, c9, rfl⟩ := Kd.R_slice HV8.out; have hbk := HO6.out.at2 HG8.out.1; rw [HG.out.1] at hbk; have p8 := (blk3_c hbk).2.2; have p9 := blk_fr (i := 2) hbk; have HP8 := Aside0.mk (HO6.out.push HG8.out.1 HV8.out); clear hbk)
          go_roundw
          case rel =>
            refine ⟨k + 1, .slice A9 (M.length + 1) c9, M ++ [y], by omega, by go_num, ⟨HT1.out.2 ⟨HOK.out, by rw [HYO.out]⟩⟩, ⟨by rw [HT2.out, HMM.out, HYO.out]⟩, ⟨?_⟩⟩
            rw [← HG.out.1]
            have h := HP8.out
            rw [List.length_append] at h
            exact h
          case measure => simp [intOf]; omega
      · rw [List.take_of_length_le (by omega)] at HOK HMM
        obtain ⟨z0, z1, z2, hz⟩ := HBX.out.c
        have hbo := HO.out.blk
        rw [HG.out.1] at hbo
        obtain ⟨s0, s1, s2⟩ := blk3_c hbo
        obtain ⟨⟨q0, q1⟩, ⟨q2, q3⟩, ⟨q4, q5⟩⟩ := blk3_put hz (.slice A2 U.length c2) (.slice A3 J.length c3) (.slice As M.length cs)
        have hz3 := blk3_three hz (.slice A2 U.length c2) (.slice A3 J.length c3) (.slice As M.length cs)
        obtain ⟨r0, r1, r2⟩ := blk3_c hz3
        have e := HJF.out
        rw [if_pos HOK.out] at e
        rw [HMM.out] at e
        obtain ⟨rfl, rfl⟩ := Prod.mk.inj e
        clear hz hz3 hbo e HJF
        go_wp2
        refine bodyPost_ret (v := .tuple #[.agg #[.slice A2 U.length c2, .slice A3 J.length c3, .slice As M.length cs], .int .i64 0]) (by simp [results, Tryz.results43, go_sem, r0, r1, r2]) rfl ?_
        have hlo := HLO.out
        have hz1 := HZ4.out.1
        have hwl : w.heap.size + 1 + 1 < W0.heap.size := HLO.out
        have hfar : ∀ {V : World} (k : Nat) (u : Value), RelM V W0.heap.size (.agg #[.slice A2 U.length c2, .slice A3 J.length c3]) (U, J) → RelM (V.setCell ⟨w.heap.size + 1 + 1, k, none⟩ u) W0.heap.size (.agg #[.slice A2 U.length c2, .slice A3 J.length c3]) (U, J) := fun k u h => h.far (p := ⟨w.heap.size + 1 + 1, k, none⟩) hwl u
        have hrow : ∀ {V : World} (k : Nat) (u : Value), Kd.R KC 51 V w4.heap.size (fun k => w4.heap.size < k) (.slice As M.length cs) M → Kd.R KC 51 (V.setCell ⟨w.heap.size + 1 + 1, k, none⟩ u) w4.heap.size (fun k => w4.heap.size < k) (.slice As M.length cs) M := fun k u h => Kd.R_far h (p := ⟨w.heap.size + 1 + 1, k, none⟩) (fun q hq => by show q ≠ w.heap.size + 1 + 1; omega) u
        have hM5 := hfar 2 (.slice As M.length cs) (hfar 1 (.slice A3 J.length c3) (hfar 0 (.slice A2 U.length c2) (RelM.below HM.out (below_then HB14.out HB14.out.size HO.out.bel))))
        have hR5 := hrow 2 (.slice As M.length cs) (hrow 1 (.slice A3 J.length c3) (hrow 0 (.slice A2 U.length c2) HO.out.row))
        exact ⟨A2, c2, A3, c3, As, cs, rfl, ⟨hM5.lower (by omega), Kd.R_lower (Kd.R_mono hR5 (fun k hk => by show w.heap.size ≤ k; omega)) (by omega)⟩, ((HBX.out.bel.setCell (p := ⟨w.heap.size + 1 + 1, 0, none⟩) (show w.heap.size ≤ w.heap.size + 1 + 1 by omega) _).setCell (p := ⟨w.heap.size + 1 + 1, 1, none⟩) (show w.heap.size ≤ w.heap.size + 1 + 1 by omega) _).setCell (p := ⟨w.heap.size + 1 + 1, 2, none⟩) (show w.heap.size ≤ w.heap.size + 1 + 1 by omega) _⟩
  · have HJO := Aside0.mk (fun (W : World) (h : RelRd W A c a.sc A' c' a.L) (h' : RelRd W B d b.sc B' d' b.L) (ht : Tab W) => join_m (r := ([], [])) (n := 9) h HR.out.2.2.1 h' HR.out.2.2.2 most ht (by rw [joinAt, HU.out.2.1, HU.out.1, if_neg hfit]) (by rw [joinEr, HU.out.2.1, if_neg hfit]))
    have hJF : ((⟨[], [], []⟩ : WRelC), (9 : Int)) = (r, n) := by rw [← HRR.out, HJT.out, if_neg hfit]
    have HJF := Aside0.mk hJF
    clear hfit HRR HJT hJF
    go_enter Tryz.func43, Tryz.ntmps43
    go_wp2_with (go_at_call 66; refine (HJO.out _ (HR.out.1.rel.step H0.out.bel) (HR.out.2.1.rel.step H0.out.bel) (HT.out.step H0.out.bel)).mono ?_; rintro e w1 ⟨A2, c2, A3, c3, rfl, hM, hb1⟩; have hb4 := below_then hb1 hb1.size (below_alloc (Below.refl w1.heap.size w1) (.cells #[.slice A2 0 c2, .slice A3 0 c3] 31)); have HX4 := Aside0.mk (H0.out.step hb4); obtain ⟨z0, z1, z2, hz⟩ := HX4.out.c; obtain ⟨⟨s0, s1⟩, ⟨s2, s3⟩, ⟨s4, s5⟩⟩ := blk3_put hz (.slice none 0 0) (.slice none 0 0) (.slice none 0 0); have hz3 := blk3_three hz (.slice none 0 0) (.slice none 0 0) (.slice none 0 0); obtain ⟨r0, r1, r2⟩ := blk3_c hz3; clear hz hz3 hM hb1 hb4)
    refine bodyPost_ret (v := .tuple #[.agg #[.slice none 0 0, .slice none 0 0, .slice none 0 0], .int .i64 9]) (by simp [results, Tryz.results43, go_sem, r0, r1, r2]) rfl ?_
    obtain ⟨rfl, rfl⟩ := Prod.mk.inj HJF.out
    exact ⟨none, 0, none, 0, none, 0, rfl, WMkC.none _ _, ((HX4.out.bel.setCell (p := ⟨w.heap.size + 1 + 1, 0, none⟩) (show w.heap.size ≤ w.heap.size + 1 + 1 by omega) _).setCell (p := ⟨w.heap.size + 1 + 1, 1, none⟩) (show w.heap.size ≤ w.heap.size + 1 + 1 by omega) _).setCell (p := ⟨w.heap.size + 1 + 1, 2, none⟩) (show w.heap.size ≤ w.heap.size + 1 + 1 by omega) _⟩

end
end Go.Proofs.YtlmkgghpaaadhaaGreatDoor.G

/- weigh.Times, by complex numbers. -/
set_option linter.unusedVariables false
set_option linter.unusedSimpArgs false
namespace Go.Proofs.YtlmkgghpaaadhaaGreatDoor.G
open Go.RowKit Go.Proofs.YtlmkgghpaaadhaaGreatDoorW.PrintWords Go.Proofs.YtlmkgghpaaadhaaGreatDoorW.PrintLast Go.Proofs.YtlmkgghpaaadhaaGreatDoorW.PrintMore
section
variable {A : Option Addr} {c : Nat} {A' : Option Addr} {c' : Nat} {Aw : Option Addr} {cw : Nat} {B : Option Addr} {d : Nat} {B' : Option Addr} {d' : Nat} {Bw : Option Addr} {dw : Nat} {a b : WRelC} {w : World}

set_option maxHeartbeats 4000000 in
set_option maxRecDepth 100000 in
theorem times_anyC (h : WRdC w A c a.sc A' c' a.L Aw cw a.ws) (ht : Rt a.sc a.L) (h' : WRdC w B d b.sc B' d' b.L Bw dw b.ws) (ht' : Rt b.sc b.L) (hm : a.sc.length ≤ 1000000) (hm' : b.sc.length ≤ 1000000) (most : Int) (htab : Tab w) (F0 : WFC) (hF : ∀ (W : World) (t : List Int), t ∈ joinRows a.sc a.L b.sc b.L → Calls Tryz.prog 44 #[.complex .f64 (weightOfC a.sc a.L a.ws (uni a.sc b.sc) t).1 (weightOfC a.sc a.L a.ws (uni a.sc b.sc) t).2, .complex .f64 (weightOfC b.sc b.L b.ws (uni a.sc b.sc) t).1 (weightOfC b.sc b.L b.ws (uni a.sc b.sc) t).2] W fun e w' => e = .returned (.tuple #[.complex .f64 (wRowC F0 a.sc a.L a.ws b.sc b.L b.ws t).1.1 (wRowC F0 a.sc a.L a.ws b.sc b.L b.ws t).1.2, .bool (wRowC F0 a.sc a.L a.ws b.sc b.L b.ws t).2]) ∧ Drawn0 W w') {r : WRelC} {n : Int} (hr : joinedToC F0 a b most = (r, n)) :
    Calls Tryz.prog 20 #[.agg #[.slice A a.sc.length c, .slice A' a.L.length c', .slice Aw a.ws.length cw], .agg #[.slice B b.sc.length d, .slice B' b.L.length d', .slice Bw b.ws.length dw], .int .i64 most] w fun e w' => WOkC w w' e r n := by
  have hx0 := Bx3C.new w (.slice A a.sc.length c) (.slice A' a.L.length c') (.slice Aw a.ws.length cw) (.slice B b.sc.length d) (.slice B' b.L.length d') (.slice Bw b.ws.length dw) (.slice none 0 0) (.slice none 0 0) (.slice none 0 0)
  obtain ⟨W0, hW0⟩ : ∃ W0, ((w.alloc (.cells #[.slice A a.sc.length c, .slice A' a.L.length c', .slice Aw a.ws.length cw] 48)).alloc (.cells #[.slice B b.sc.length d, .slice B' b.L.length d', .slice Bw b.ws.length dw] 48)).alloc (.cells #[.slice none 0 0, .slice none 0 0, .slice none 0 0] 48) = W0 := ⟨_, rfl⟩
  rw [hW0] at hx0
  obtain ⟨q0, q1, q2⟩ := blk3_c hx0.a
  obtain ⟨q3, q4, q5⟩ := blk3_c hx0.b
  have H0 := Aside0.mk hx0
  have HC := Aside0.mk (joined_timesC (h.step hx0.bel) ht (h'.step hx0.bel) ht' hm hm' most (htab.step hx0.bel) F0 hF hr)
  have hlo : w.heap.size + 1 + 1 < W0.heap.size := by
    obtain ⟨x, y, z, hC⟩ := hx0.c
    exact (Array.getElem?_eq_some_iff.1 hC).1
  clear h h' ht ht' hF hr htab hx0
  go_enter Tryz.func20, Tryz.ntmps20
  go_wp2_with (go_at_call 43; refine (HC.out).mono ?_; rintro e w1 ⟨A2, c2, A3, c3, A4, c4, rfl, hW, hb1⟩; have HX := Aside0.mk (H0.out.step hb1); have HWR := Aside0.mk hW; obtain ⟨z0, z1, z2, hz⟩ := HX.out.c; obtain ⟨⟨s0, s1⟩, ⟨s2, s3⟩, ⟨s4, s5⟩⟩ := blk3_put hz (.slice A2 r.sc.length c2) (.slice A3 r.L.length c3) (.slice A4 r.ws.length c4); have hz3 := blk3_three hz (.slice A2 r.sc.length c2) (.slice A3 r.L.length c3) (.slice A4 r.ws.length c4); obtain ⟨r0, r1, r2⟩ := blk3_c hz3; clear hz hz3 hb1 hW)
  refine bodyPost_ret (v := .tuple #[.agg #[.slice A2 r.sc.length c2, .slice A3 r.L.length c3, .slice A4 r.ws.length c4], .int .i64 n]) (by simp [results, Tryz.results20, go_sem, r0, r1, r2]) rfl ?_
  exact ⟨_, _, _, _, _, _, rfl, (((HWR.out.far (p := ⟨w.heap.size + 1 + 1, 0, none⟩) hlo _).far (p := ⟨w.heap.size + 1 + 1, 1, none⟩) hlo _).far (p := ⟨w.heap.size + 1 + 1, 2, none⟩) hlo _).lower (by omega), ((HX.out.bel.setCell (p := ⟨w.heap.size + 1 + 1, 0, none⟩) (show w.heap.size ≤ w.heap.size + 1 + 1 by omega) _).setCell (p := ⟨w.heap.size + 1 + 1, 1, none⟩) (show w.heap.size ≤ w.heap.size + 1 + 1 by omega) _).setCell (p := ⟨w.heap.size + 1 + 1, 2, none⟩) (show w.heap.size ≤ w.heap.size + 1 + 1 by omega) _⟩

end
end Go.Proofs.YtlmkgghpaaadhaaGreatDoor.G

/- weigh.Of, by complex numbers: rows that all weigh the same. -/
set_option linter.unusedVariables false
set_option linter.unusedSimpArgs false
namespace Go.Proofs.YtlmkgghpaaadhaaGreatDoor.G
open Go.RowKit Go.Proofs.YtlmkgghpaaadhaaGreatDoorW.PrintWords Go.Proofs.YtlmkgghpaaadhaaGreatDoorW.PrintLast Go.Proofs.YtlmkgghpaaadhaaGreatDoorW.PrintMore
/-- Behind the first statement. -/
structure OfStC (W0 : World) (sc : List Int) (n : Nat) (y : Value) (g gR : Nat) (A7 : Option Addr) (c7 : Nat) (W : World) : Prop where
  bel : Below W0.heap.size W0 W
  hg : W0.heap.size ≤ g
  blk : W.heap[g]? = some (.cells #[.slice A7 sc.length c7, .slice none 0 0, .slice (some ⟨gR, 0, none⟩) n n] 48 (0, 0))
  r0 : Kd.R KI 3 W W0.heap.size AnyB (.slice A7 sc.length c7) sc
  hR : W0.heap.size ≤ gR
  r2 : W.heap[gR]? = some (.cells (List.replicate n y).toArray 51 (0, 0))
theorem OfStC.put {W0 W5 : World} {sc : List Int} {n : Nat} {y : Value} {g gR : Nat} {A7 : Option Addr} {c7 : Nat} (hb : Below W0.heap.size W0 W5) (hg : W0.heap.size ≤ g) (hbk : W5.heap[g]? = some (.cells #[.slice none 0 0, .slice none 0 0, .slice none 0 0] 48 (0, 0))) (r0 : Kd.R KI 3 W5 W0.heap.size AnyB (.slice A7 sc.length c7) sc) (hR : W0.heap.size ≤ gR) (r2 : W5.heap[gR]? = some (.cells (List.replicate n y).toArray 51 (0, 0))) :
    OfStC W0 sc n y g gR A7 c7 (((W5.setCell ⟨g, 0, none⟩ (.slice A7 sc.length c7)).setCell ⟨g, 1, none⟩ (.slice none 0 0)).setCell ⟨g, 2, none⟩ (.slice (some ⟨gR, 0, none⟩) n n)) := by
  have hne : gR ≠ g := fun e => by
    rw [e, hbk] at r2
    have h := Option.some.inj r2
    injection h with _ h2 _
    exact absurd h2 (by decide)
  have h1 := blk_set1 hbk 0 (.slice A7 sc.length c7)
  have h2 := blk_set1 h1 1 (.slice none 0 0)
  exact ⟨((hb.setCell (p := ⟨g, 0, none⟩) hg _).setCell (p := ⟨g, 1, none⟩) hg _).setCell (p := ⟨g, 2, none⟩) hg _, hg, blk3_three hbk _ _ _, Kd.R_mono (Kd.R_set (Kd.R_set (Kd.R_set r0 hbk (int_ty _ (by decide)) 0 _) h1 (int_ty _ (by decide)) 1 _) h2 (int_ty _ (by decide)) 2 _) (fun _ _ => trivial), hR,
    (Below.heap_setCell _ _ _ _ hne).trans ((Below.heap_setCell _ _ _ _ hne).trans ((Below.heap_setCell _ _ _ _ hne).trans r2))⟩
theorem OfStC.new {W0 W5 : World} {sc : List Int} {n : Nat} {y : Value} {gR : Nat} {A7 : Option Addr} {c7 : Nat} (hb : Below W0.heap.size W0 W5) (r0 : Kd.R KI 3 W5 W0.heap.size AnyB (.slice A7 sc.length c7) sc) (hR : W0.heap.size ≤ gR) (r2 : W5.heap[gR]? = some (.cells (List.replicate n y).toArray 51 (0, 0))) :
    OfStC W0 sc n y W5.heap.size gR A7 c7 (W5.alloc (.cells #[.slice A7 sc.length c7, .slice none 0 0, .slice (some ⟨gR, 0, none⟩) n n] 48)) :=
  ⟨below_alloc hb _, hb.size, heap_alloc_new W5 _, Kd.R_below r0 (below_alloc (Below.refl _ _) _), hR, (Below.heap_alloc _ _ _ (Array.getElem?_eq_some_iff.1 r2).1).trans r2⟩

set_option maxHeartbeats 8000000 in
set_option maxRecDepth 100000 in
theorem of_cx {A : Option Addr} {c : Nat} {sc : List Int} {A' : Option Addr} {c' : Nat} {L : List (List Int)} {w : World} (h : RelRd w A c sc A' c' L) (hm : sc.length ≤ 1000000) (hm1 : L.length ≤ 1000000) (hx : ∀ x ∈ L, x.length ≤ 1000000) (y : Cx) :
    Calls Tryz.prog 32 #[.agg #[.slice A sc.length c, .slice A' L.length c'], .complex .f64 y.1 y.2] w fun e w' => ∃ A c A' c' gR, e = .returned (.agg #[.slice A sc.length c, .slice A' L.length c', .slice (some ⟨gR, 0, none⟩) L.length L.length]) ∧ RelM w' w.heap.size (.agg #[.slice A sc.length c, .slice A' L.length c']) (sc, L) ∧ w.heap.size ≤ gR ∧ w'.heap[gR]? = some (.cells (List.replicate L.length (.complex .f64 y.1 y.2)).toArray 51 (0, 0)) ∧ Below w.heap.size w w' := by
  have HR := Aside0.mk h
  have HX := Aside0.mk hx
  obtain ⟨W0, hW0⟩ : ∃ W0, (w.alloc (.cells #[.slice A sc.length c, .slice A' L.length c'] 31)).alloc (.cells #[.slice none 0 0, .slice none 0 0, .slice none 0 0] 48) = W0 := ⟨_, rfl⟩
  have hb0 : Below w.heap.size w W0 := by rw [← hW0]; exact below_alloc (below_alloc (Below.refl _ _) _) _
  have hk0 : W0.heap[w.heap.size]? = some (.cells #[.slice A sc.length c, .slice A' L.length c'] 31 (0, 0)) := by rw [← hW0]; exact (Below.heap_alloc _ _ _ (by simp)).trans (heap_alloc_new w _)
  have hz0 : W0.heap[w.heap.size + 1]? = some (.cells #[.slice none 0 0, .slice none 0 0, .slice none 0 0] 48 (0, 0)) := by rw [← hW0]; have := heap_alloc_new (w.alloc (.cells #[.slice A sc.length c, .slice A' L.length c'] 31)) (.cells #[.slice none 0 0, .slice none 0 0, .slice none 0 0] 48); rwa [World.size_alloc] at this
  have hs0 : W0.heap.size = w.heap.size + 2 := by rw [← hW0]; simp
  have H0 := Aside0.mk (And.intro hb0 (And.intro hk0 (And.intro hz0 hs0)))
  have q0 := blk2_c0 hk0
  have q1 := blk2_c1 hk0
  clear h hx hb0 hz0 hk0 hs0
  go_enter Tryz.func32, Tryz.ntmps32
  go_upto_region 1 with fail
  clear hW0
  go_cut [5] (fun s5 W => ∃ (g gR : Nat) (A7 : Option Addr) (c7 : Nat), s5 = .pointer (some ⟨g, 0, none⟩) ∧ Aside0 (OfStC W0 sc L.length (.complex .f64 y.1 y.2) g gR A7 c7 W))
  case first =>
    have HST := Aside0.mk (show ∀ {W W1 : World}, (W.cell? ⟨w.heap.size, 0, none⟩ = some (.slice A sc.length c) ∧ W.cell? ⟨w.heap.size, 1, none⟩ = some (.slice A' L.length c') ∧ Below W0.heap.size W0 W) → Below W.heap.size W W1 → (W1.cell? ⟨w.heap.size, 0, none⟩ = some (.slice A sc.length c) ∧ W1.cell? ⟨w.heap.size, 1, none⟩ = some (.slice A' L.length c') ∧ Below W0.heap.size W0 W1) from fun {W W1} h hb => ⟨(hb.cell (World.block_lt_of_cell? W _ h.1)).trans h.1, (hb.cell (World.block_lt_of_cell? W _ h.2.1)).trans h.2.1, below_then h.2.2 h.2.2.size hb⟩)
    have HSB := Aside0.mk (show ∀ {W : World}, (W.cell? ⟨w.heap.size, 0, none⟩ = some (.slice A sc.length c) ∧ W.cell? ⟨w.heap.size, 1, none⟩ = some (.slice A' L.length c') ∧ Below W0.heap.size W0 W) → Below W0.heap.size W0 W from fun {W} h => h.2.2)
    have HSE := Aside0.mk (show ∀ {W : World} {g : Nat} (i : Nat) (u : Value), (W.cell? ⟨w.heap.size, 0, none⟩ = some (.slice A sc.length c) ∧ W.cell? ⟨w.heap.size, 1, none⟩ = some (.slice A' L.length c') ∧ Below W0.heap.size W0 W) → W0.heap.size ≤ g → ((W.setCell ⟨g, i, none⟩ u).cell? ⟨w.heap.size, 0, none⟩ = some (.slice A sc.length c) ∧ (W.setCell ⟨g, i, none⟩ u).cell? ⟨w.heap.size, 1, none⟩ = some (.slice A' L.length c') ∧ Below W0.heap.size W0 (W.setCell ⟨g, i, none⟩ u)) from fun {W g} i u h hg => ⟨cell_set_ne h.1 (by have := H0.out.2.2.2; show (w.heap.size : Nat) ≠ g; omega) i u, cell_set_ne h.2.1 (by have := H0.out.2.2.2; show (w.heap.size : Nat) ≠ g; omega) i u, h.2.2.setCell (p := ⟨g, i, none⟩) hg u⟩)
    have HSDA := Aside0.mk (show (W0.drew.cell? ⟨w.heap.size, 0, none⟩ = some (.slice A sc.length c) ∧ W0.drew.cell? ⟨w.heap.size, 1, none⟩ = some (.slice A' L.length c') ∧ Below W0.heap.size W0 W0.drew) from ⟨q0, q1, below_drew (Below.refl _ _)⟩)
    go_region_held3 (fun W => W.cell? ⟨w.heap.size, 0, none⟩ = some (.slice A sc.length c) ∧ W.cell? ⟨w.heap.size, 1, none⟩ = some (.slice A' L.length c') ∧ Below W0.heap.size W0 W)
      (first | with_reducible exact HS6A.out | with_reducible exact HS5A.out | with_reducible exact HS4A.out | with_reducible exact HSDA.out | with_reducible exact HST.out HS5A.out (below_alloc (Below.refl _ _) _) | with_reducible exact HST.out HS4A.out (below_alloc (Below.refl _ _) _) | with_reducible exact HST.out (by assumption) (below_alloc (Below.refl _ _) _) | with_reducible exact HST.out (by assumption) (below_drew (Below.refl _ _)))
      (first
        | (have hgd := HS4A; clear hgd; go_at_call 63; refine (repeat_cx (.complex .f64 y.1 y.2) rfl L.length (by omega) _ _ (by first | exact cell_of_blk1 hlk | exact cell_of_blk1 ((Below.heap_alloc w4 (.cells #[.slice none 0 0, .slice none 0 0, .slice none 0 0] 48) _ (Array.getElem?_eq_some_iff.1 hlk).1).trans hlk) | exact cell_of_blk1 (heap_alloc_new w4 (.cells #[.complex .f64 y.1 y.2] 51)) | exact cell_of_blk1 (blk_two1 w4 (.cells #[.complex .f64 y.1 y.2] 51) (.cells #[.slice none 0 0, .slice none 0 0, .slice none 0 0] 48)) | exact cell_of_blk1 (blk_two2 w4 (.cells #[.slice none 0 0, .slice none 0 0, .slice none 0 0] 48) (.cells #[.complex .f64 y.1 y.2] 51)))).mono ?_; rintro e w5 ⟨rfl, hk5, hb5⟩; have hS5 := HST.out (by assumption) hb5; have HS5A := Aside0.mk hS5;
           have hb45 : Below w4.heap.size w4 w5 := (by first | exact hb5 | exact below_then (below_alloc (Below.refl _ _) _) (by simp) hb5 | exact below_then (below_alloc (below_alloc (Below.refl _ _) _) _) (by simp; omega) hb5);
           have HV5 := Aside0.mk (And.intro hk5 hb45); have hz5 := (HSB.out hS5).size;
           (first | (have hbk := blk_at hb5 hbk) | (have hbk := blk_at hb5 ((Below.heap_alloc w4 (.cells #[.complex .f64 y.1 y.2] 51) _ (Array.getElem?_eq_some_iff.1 hbk).1).trans hbk)) | (have hbk := blk_at hb5 (heap_alloc_new w4 (.cells #[.slice none 0 0, .slice none 0 0, .slice none 0 0] 48))) | (have hbk := blk_at hb5 (blk_two1 w4 (.cells #[.slice none 0 0, .slice none 0 0, .slice none 0 0] 48) (.cells #[.complex .f64 y.1 y.2] 51))) | (have hbk := blk_at hb5 (blk_two2 w4 (.cells #[.complex .f64 y.1 y.2] 51) (.cells #[.slice none 0 0, .slice none 0 0, .slice none 0 0] 48))) | skip);
           have hw4 := HV4.out.2; (first | (have hkR : w5.heap[w4.heap.size]? = some (.cells (List.replicate L.length (.complex .f64 y.1 y.2)).toArray 51 (0, 0)) := (by first | exact hk5 | (simpa using hk5)); have HKR := Aside0.mk hkR; try (obtain ⟨⟨p0, p1⟩, ⟨p2, p3⟩, ⟨p4, p5⟩⟩ := blk3_put hbk (.slice A7 sc.length c7) (.slice none 0 0) (.slice (some ⟨w4.heap.size, 0, none⟩) L.length L.length); have HP := Aside0.mk (OfStC.put (HSB.out hS5) (by first | exact Nat.le_refl _ | omega) hbk (Kd.R_below HV4.out.1 hb45) (by omega) hkR); have HS6A := Aside0.mk (HSE.out 2 (.slice (some ⟨w4.heap.size, 0, none⟩) L.length L.length) (HSE.out 1 (.slice none 0 0) (HSE.out 0 (.slice A7 sc.length c7) hS5 (at_leW hbk (by first | exact Nat.le_refl _ | omega))) (at_leW hbk (by first | exact Nat.le_refl _ | omega))) (at_leW hbk (by first | exact Nat.le_refl _ | omega))))) | (have hkR : w5.heap[w4.heap.size + 1]? = some (.cells (List.replicate L.length (.complex .f64 y.1 y.2)).toArray 51 (0, 0)) := (by first | exact hk5 | (simpa using hk5)); have HKR := Aside0.mk hkR; try (obtain ⟨⟨p0, p1⟩, ⟨p2, p3⟩, ⟨p4, p5⟩⟩ := blk3_put hbk (.slice A7 sc.length c7) (.slice none 0 0) (.slice (some ⟨w4.heap.size + 1, 0, none⟩) L.length L.length); have HP := Aside0.mk (OfStC.put (HSB.out hS5) (by first | exact Nat.le_refl _ | omega) hbk (Kd.R_below HV4.out.1 hb45) (by omega) hkR); have HS6A := Aside0.mk (HSE.out 2 (.slice (some ⟨w4.heap.size + 1, 0, none⟩) L.length L.length) (HSE.out 1 (.slice none 0 0) (HSE.out 0 (.slice A7 sc.length c7) hS5 (at_leW hbk (by first | exact Nat.le_refl _ | omega))) (at_leW hbk (by first | exact Nat.le_refl _ | omega))) (at_leW hbk (by first | exact Nat.le_refl _ | omega))))) | (have hkR : w5.heap[w4.heap.size + 1 + 1]? = some (.cells (List.replicate L.length (.complex .f64 y.1 y.2)).toArray 51 (0, 0)) := (by first | exact hk5 | (simpa using hk5)); have HKR := Aside0.mk hkR; try (obtain ⟨⟨p0, p1⟩, ⟨p2, p3⟩, ⟨p4, p5⟩⟩ := blk3_put hbk (.slice A7 sc.length c7) (.slice none 0 0) (.slice (some ⟨w4.heap.size + 1 + 1, 0, none⟩) L.length L.length); have HP := Aside0.mk (OfStC.put (HSB.out hS5) (by first | exact Nat.le_refl _ | omega) hbk (Kd.R_below HV4.out.1 hb45) (by omega) hkR); have HS6A := Aside0.mk (HSE.out 2 (.slice (some ⟨w4.heap.size + 1 + 1, 0, none⟩) L.length L.length) (HSE.out 1 (.slice none 0 0) (HSE.out 0 (.slice A7 sc.length c7) hS5 (at_leW hbk (by first | exact Nat.le_refl _ | omega))) (at_leW hbk (by first | exact Nat.le_refl _ | omega))) (at_leW hbk (by first | exact Nat.le_refl _ | omega)))))); have HQ5 := Aside0.mk (And.intro (HSB.out hS5) (Kd.R_below HV4.out.1 hb45)); clear hS5 hk5 hb5 hb45)
        | (go_at_call 53; refine (slices_Clone_any A c sc _ (Kd.C_below (Kd.C_below HR.out.row H0.out.1) (HSB.out (by assumption))) (by omega)).mono ?_; rintro e w4 ⟨v4, rfl, hv4, hb4⟩; have hS4 := HST.out (by assumption) hb4; have HS4A := Aside0.mk hS4; obtain ⟨A7, c7, rfl, _, _⟩ := Kd.R_reads hv4; have HV4 := Aside0.mk (And.intro (show Kd.R KI 3 w4 W0.heap.size AnyB (.slice A7 sc.length c7) sc from Kd.R_lower hv4 (by first | exact Nat.le_refl W0.heap.size | exact (below_drew (below_alloc (Below.refl W0.heap.size W0) _)).size | exact (below_drew (below_alloc (below_alloc (Below.refl W0.heap.size W0) _) _)).size | exact (below_alloc (Below.refl W0.heap.size W0) _).size | exact (below_alloc (below_alloc (Below.refl W0.heap.size W0) _) _).size)) (HSB.out hS4).size);
           (first | (have hbk := blk_at hb4 (heap_alloc_new W0 (.cells #[.slice none 0 0, .slice none 0 0, .slice none 0 0] 48))) | (have hbk := blk_at hb4 (blk_two1 W0 (.cells #[.slice none 0 0, .slice none 0 0, .slice none 0 0] 48) (.cells #[.complex .f64 y.1 y.2] 51))) | (have hbk := blk_at hb4 (blk_two2 W0 (.cells #[.complex .f64 y.1 y.2] 51) (.cells #[.slice none 0 0, .slice none 0 0, .slice none 0 0] 48))) | skip);
           (first | (have hlk := blk_at hb4 (heap_alloc_new W0 (.cells #[.complex .f64 y.1 y.2] 51))) | (have hlk := blk_at hb4 (blk_two1 W0 (.cells #[.complex .f64 y.1 y.2] 51) (.cells #[.slice none 0 0, .slice none 0 0, .slice none 0 0] 48))) | (have hlk := blk_at hb4 (blk_two2 W0 (.cells #[.slice none 0 0, .slice none 0 0, .slice none 0 0] 48) (.cells #[.complex .f64 y.1 y.2] 51))) | skip);
           clear hv4 hb4 hS4))
    all_goals
      first
      | (have hgd := HP; clear hgd; (try (go_wp2_with fail)); go_meet; case rel => exact ⟨_, _, _, _, rfl, HP⟩)
      | ((try (go_wp2_with fail)); go_meet; case rel => exact ⟨_, _, _, _, rfl, ⟨OfStC.new HQ5.out.1 HQ5.out.2 (by have := HV4.out.2; omega) HKR.out⟩⟩)
  case rest =>
    obtain ⟨g, gR, A7, c7, rfl, HO⟩ := hcut
    have hgw : w.heap.size + 1 < g := by have := HO.out.hg; have := H0.out.2.2.2; omega
    have HB1 := Aside0.mk (below_then H0.out.1 H0.out.1.size HO.out.bel)
    have hbx := (HO.out.bel.block _ (by have := H0.out.2.2.2; omega)).trans H0.out.2.1
    have hbz := (HO.out.bel.block _ (by have := H0.out.2.2.2; omega)).trans H0.out.2.2.1
    have HBX := Aside0.mk (And.intro hbx hbz)
    have HRO := Aside0.mk (RowsOut3.start HO.out.blk)
    obtain ⟨s2, hs2⟩ : ∃ s, Value.slice (some ⟨gR, 0, none⟩) L.length L.length = s := ⟨_, rfl⟩
    rw [hs2] at HRO
    have HS2 := Aside0.mk hs2
    have q1' := blk2_c1 hbx
    have hgc := (Array.getElem?_eq_some_iff.1 HO.out.blk).1
    clear q0 q1 hbx hbz hs2
    rename World => wc
    go_wp2
    go_loopw [22] (fun i W => ∃ (k : Nat) (s1 : Value), k ≤ L.length ∧ i = .int .i64 k ∧ Aside0 (RowsOut3 48 wc g (.slice A7 sc.length c7) s1 s2 (L.take k) W)) (fun i _ => L.length - (intOf i).toNat)
    case atStart => exact ⟨0, _, Nat.zero_le _, rfl, HRO⟩
    case round =>
      clear HRO
      obtain ⟨k, s1, hk, rfl, HK⟩ := hrel
      have HBW := Aside0.mk (HK.out.but.below HB1.out HB1.out.size (by omega))
      by_cases hlt : k < L.length
      · obtain ⟨ad, Bx, cx, rfl, hxc, hlx, hcx⟩ := at_row HR.out.rows HBW.out k hlt
        have hkl : (k : Int) < (L.length : Int) := by omega
        have hxl : (L.getD k []).length ≤ 1000000 := HX.out _ (by rw [getD_get _ _ hlt]; exact List.getElem_mem hlt)
        have HTS := Aside0.mk (show L.take (k + 1) = L.take k ++ [L.getD k []] from by rw [List.take_succ_eq_append_getElem hlt, getD_get _ _ hlt])
        obtain ⟨x, hxe⟩ : ∃ x, L.getD k [] = x := ⟨_, rfl⟩
        rw [hxe] at hxc hlx hcx hxl HTS
        have HCX := Aside0.mk hcx
        have hgl7 := (Array.getElem?_eq_some_iff.1 HK.out.blk).1
        have HW2 := Aside0.mk HK.out.but.size
        have HOK := Aside0.mk (show ∀ q, wr.heap.size ≤ q → (wc.heap.size ≤ q ∧ q ≠ g) ∧ some q ≠ s1.ownBlock from fun q hq => ⟨⟨Nat.le_trans HW2.out hq, by omega⟩, fun e => by have := Kd.N_lt HK.out.rows q e.symm; omega⟩)
        have hfl : (L.take k).length ≤ 1000000 := by rw [List.length_take]; omega
        obtain ⟨FL, hFL⟩ : ∃ FL, L.take k = FL := ⟨_, rfl⟩
        rw [hFL] at HK hfl HTS
        have HFL := Aside0.mk hfl
        have qa := (blk3_c HK.out.blk).2.1
        clear hcx hxe hFL hfl hlx
        go_wp2_with fail
        go_region_law (first
          | (go_simp; go_at_call 53; refine (slices_Clone_any Bx cx x _ (Kd.C_below HCX.out (below_drew (Below.refl _ _))) (by omega)).mono ?_; rintro e w8 ⟨v8, rfl, hv8, hb8⟩; obtain ⟨A9, c9, rfl, _, _⟩ := Kd.R_reads hv8; have HV8 := Aside0.mk (And.intro hv8 hb8); have hbk8 := (hb8.block g hgl7).trans HK.out.blk; have qb := (blk3_c hbk8).2.1; have qc := (blk3_c ((Below.heap_alloc w8 (.cells #[.slice A9 x.length c9] 22) g (Array.getElem?_eq_some_iff.1 hbk8).1).trans hbk8)).2.1; have HB8 := Aside0.mk ((below_drew (Below.refl wr.heap.size wr)).trans hb8); clear hv8 hb8 hbk8) | ((refine Kd.N_append_step KL (w0 := w8) wc.heap.size (by rfl) (.tmp 28) (.tmp 31) 23 22 (.slice none 0 0) 24 rfl Tryz.underlying23 infoInts rfl (by decide) (by omega) s1 FL x [.slice A9 x.length c9] (fun q => wc.heap.size ≤ q ∧ q ≠ g) (fun q => wr.heap.size ≤ q) rfl rfl (Kd.FK_of_M (base := wr.drew.heap.size) ⟨_, rfl, Kd.R_mono (Kd.R_bound HV8.out.1) (fun q hq => hq.2.1)⟩) (fun q hq => HOK.out q hq) (fun q hq => (HOK.out q (Nat.le_trans HB8.out.size hq)).1) (Kd.N_below HK.out.rows HB8.out) (Below.refl _ _) (Nat.le_trans HW2.out HB8.out.size) (by have := HFL.out; omega) ?_); intro v9 w9 hN hB hgr hat; obtain ⟨A10, c10, rfl⟩ := Kd.N_slice hN; have hbk9 := HK.out.at1 HB8.out hgr; have qd := (blk3_c hbk9).2.1; have qe := blk_fr (i := 1) hbk9; have HP9 := Aside0.mk (HK.out.push HB8.out hgr hN); clear hN hB hgr hat hbk9))
        all_goals
          go_wp2_with fail
          go_roundw
          case rel => exact ⟨k + 1, _, by omega, by go_num, ⟨by rw [HTS.out]; have h := HP9.out; rw [List.length_append] at h; exact h⟩⟩
          case measure => simp [intOf]; omega
      · rw [List.take_of_length_le (by omega)] at HK
        obtain ⟨A10, c10, rfl⟩ := Kd.N_slice HK.out.rows
        obtain ⟨qa, qb, qc⟩ := blk3_c HK.out.blk
        have hzw := (HK.out.but.block _ (by have := (Array.getElem?_eq_some_iff.1 HBX.out.2).1; exact this) (by omega)).trans HBX.out.2
        obtain rfl := HS2.out
        obtain ⟨⟨p0, p1⟩, ⟨p2, p3⟩, ⟨p4, p5⟩⟩ := blk3_put hzw (.slice A7 sc.length c7) (.slice A10 L.length c10) (.slice (some ⟨gR, 0, none⟩) L.length L.length)
        have hz3 := blk3_three hzw (.slice A7 sc.length c7) (.slice A10 L.length c10) (.slice (some ⟨gR, 0, none⟩) L.length L.length)
        obtain ⟨r0, r1, r2⟩ := blk3_c hz3
        clear hz3 hzw
        go_wp2
        refine bodyPost_ret (v := .agg #[.slice A7 sc.length c7, .slice A10 L.length c10, .slice (some ⟨gR, 0, none⟩) L.length L.length]) (by simp [results, Tryz.results32, go_sem, r0, r1, r2]) rfl ?_
        have hs := H0.out.2.2.2
        have hR0 := HK.out.but.R (Kd.R_types HO.out.r0 HO.out.blk (int_ty _ (by decide)))
        have hR1 := Kd.R_mono (Kd.R_bound hR0) (ok' := fun q => W0.heap.size ≤ q) (fun q hq => hq.2.1)
        have hne : gR ≠ g := fun e => by
          have h1 := HO.out.r2
          rw [e, HO.out.blk] at h1
          have h2 := Option.some.inj h1
          injection h2 with _ h3 _
          exact absurd h3 (by decide)
        have hr2 := (HK.out.but.block _ (Array.getElem?_eq_some_iff.1 HO.out.r2).1 hne).trans HO.out.r2
        have hfin : ∀ {V : World} (i : Nat) (u : Value), V.heap[gR]? = some (.cells (List.replicate L.length (.complex .f64 y.1 y.2)).toArray 51 (0, 0)) → (V.setCell ⟨w.heap.size + 1, i, none⟩ u).heap[gR]? = some (.cells (List.replicate L.length (.complex .f64 y.1 y.2)).toArray 51 (0, 0)) := fun {V} i u h => (Below.heap_setCell V ⟨w.heap.size + 1, i, none⟩ u gR (by have := HO.out.hR; show gR ≠ w.heap.size + 1; omega)).trans h
        have hr3 := hfin 2 (.slice (some ⟨gR, 0, none⟩) L.length L.length) (hfin 1 (.slice A10 L.length c10) (hfin 0 (.slice A7 sc.length c7) hr2))
        have hM : RelM wr W0.heap.size (.agg #[.slice A7 sc.length c7, .slice A10 L.length c10]) (sc, L) := ⟨_, _, rfl, hR1, Kd.N_lower (Kd.N_mono HK.out.rows (fun q hq => Nat.le_trans HO.out.bel.size hq.1)) HO.out.bel.size⟩
        have hM3 := ((hM.far (p := ⟨w.heap.size + 1, 0, none⟩) (by show w.heap.size + 1 < W0.heap.size; omega) (.slice A7 sc.length c7)).far (p := ⟨w.heap.size + 1, 1, none⟩) (by show w.heap.size + 1 < W0.heap.size; omega) (.slice A10 L.length c10)).far (p := ⟨w.heap.size + 1, 2, none⟩) (by show w.heap.size + 1 < W0.heap.size; omega) (.slice (some ⟨gR, 0, none⟩) L.length L.length)
        have hB3 := ((HBW.out.setCell (p := ⟨w.heap.size + 1, 0, none⟩) (Nat.le_succ _) (.slice A7 sc.length c7)).setCell (p := ⟨w.heap.size + 1, 1, none⟩) (Nat.le_succ _) (.slice A10 L.length c10)).setCell (p := ⟨w.heap.size + 1, 2, none⟩) (Nat.le_succ _) (.slice (some ⟨gR, 0, none⟩) L.length L.length)
        exact ⟨A7, c7, A10, c10, gR, rfl, hM3.lower (by omega), by have := HO.out.hR; omega, hr3, hB3⟩
end Go.Proofs.YtlmkgghpaaadhaaGreatDoor.G
