/- Proved: for every input the law arboristlaw04.WeighOf returns true and its arguments read as they did; what the program's tables hold at the start is tied to the program's text. No condition. -/
import Derived.Test.YtlmkgghpaaadhaaGreatDoorRows
import Derived.Test.YtlmkgghpaaadhaaGreatDoorCards
import Derived.Test.YtlmkgghpaaadhaaGreatDoorTie
import Derived.Test.YtlmkgghpaaadhaaGreatDoorNA
import Derived.Deep.Matrix
import Derived.ProofKit
import Derived.OpenShut
import Derived.WalkKit
import Derived.ShutString
import Derived.ChangeOld
import Derived.Below
import Derived.SevenTiedAt
import Derived.Stop.Joined
import Derived.Deep.DeepCutAuto
set_option linter.unusedVariables false
set_option linter.unusedSimpArgs false
namespace Go.Proofs.YtlmkgghpaaadhaaGreatDoor.G
open Go.RowKit Go.Proofs.YtlmkgghpaaadhaaGreatDoorW.PrintWords Go.Proofs.YtlmkgghpaaadhaaGreatDoorW.PrintLast Go.Proofs.YtlmkgghpaaadhaaGreatDoorW.PrintMore Go.Proofs.YtlmkgghpaaadhaaGreatDoor.PRefs
attribute [local go_sem] min2_mn min_two

theorem rd_rep (n : Nat) (y : Int) {k : Nat} (h : k < n) : rd (List.replicate n y) (k : Int) = y := by
  rw [rd_get _ _ (by simpa using h)]; simp
set_option maxHeartbeats 8000000 in
set_option maxRecDepth 100000 in
theorem weighof_walk (A0 : Option Addr) (c0 : Nat) (sx : List Int) (B0 : Option Addr) (d0 : Nat) (rx : List (List Int)) (E0 : Option Addr) (e0 : Nat) (ax : List Int) (F0 : Option Addr) (n0 f0 : Nat) (v : Int) (w : World) (hr0 : RelRd w A0 c0 sx B0 d0 rx) (ha0 : Kd.C KI w E0 ax.length ax) (hn0 : n0 ≤ 9223372036854775807) (htab : Tab w) :
    Calls Tryz.prog 7 #[.agg #[.slice A0 sx.length c0, .slice B0 rx.length d0, .slice E0 ax.length e0, .slice F0 n0 f0], .int .i64 v] w fun e w' => e = .returned (.bool true) ∧ Below w.heap.size w w' := by
  have HT := Aside0.mk htab
  clear htab
  obtain ⟨s, hs⟩ : ∃ s, smallS3 sx = s := ⟨_, rfl⟩
  obtain ⟨R, hR⟩ : ∃ R, smallRows3 s.length rx = R := ⟨_, rfl⟩
  have HM := Aside0.mk (show Sm s R from by rw [← hR, ← hs]; exact sm_small _ _)
  have HS := Aside0.mk (And.intro hs hR)
  have hRl : R.length ≤ 12 := HM.out.l
  have HX := Aside0.mk (show ∀ x ∈ R, x.length ≤ 1000000000000 from fun x hx => by have := HM.out.rt.r.2.1 x hx; have := HM.out.s; omega)
  clear hs hR
  have hwf := wd_field0
  have hp0 := P4Bx.new (Ab := F0) (nb := n0) (cb := f0) hr0 ha0 (ca := e0)
  have HB0 := Aside0.mk (below_alloc (Below.refl w.heap.size w) (.cells #[.slice A0 sx.length c0, .slice B0 rx.length d0, .slice E0 ax.length e0, .slice F0 n0 f0] 26))
  have Hx0 := Aside0.mk hp0
  clear hp0 hr0 ha0
  have yx0_0 : World.cell? _ ⟨w.heap.size, 0, none⟩ = some (.slice A0 sx.length c0) := (blk4_c Hx0.out.blk).1
  have yx1_0 : World.cell? _ ⟨w.heap.size, 1, none⟩ = some (.slice B0 rx.length d0) := (blk4_c Hx0.out.blk).2.1
  have yx2_0 : World.cell? _ ⟨w.heap.size, 2, none⟩ = some (.slice E0 ax.length e0) := (blk4_c Hx0.out.blk).2.2.1
  have yx3_0 : World.cell? _ ⟨w.heap.size, 3, none⟩ = some (.slice F0 n0 f0) := (blk4_c Hx0.out.blk).2.2.2
  go_enter Tryz.func7, Tryz.ntmps7
  go_upto_region 2 with (go_at_call 12; refine (shown4_any _ (HT.out.step HB0.out)).mono ?_; rintro e w1 ⟨rfl, hb⟩; have HB1 := Aside0.mk (below_then HB0.out HB0.out.size hb); have Hx1 := Aside0.mk (Hx0.out.step hb); have yx0_1 : World.cell? _ ⟨w.heap.size, 0, none⟩ = some (.slice A0 sx.length c0) := (blk4_c Hx1.out.blk).1; have yx1_1 : World.cell? _ ⟨w.heap.size, 1, none⟩ = some (.slice B0 rx.length d0) := (blk4_c Hx1.out.blk).2.1; have yx2_1 : World.cell? _ ⟨w.heap.size, 2, none⟩ = some (.slice E0 ax.length e0) := (blk4_c Hx1.out.blk).2.2.1; have yx3_1 : World.cell? _ ⟨w.heap.size, 3, none⟩ = some (.slice F0 n0 f0) := (blk4_c Hx1.out.blk).2.2.2; clear hb yx0_0 yx1_0 yx2_0 yx3_0)
  go_cut [18] (fun u W => ∃ b : Bool, u = .bool b ∧ W = w1)
  case first =>
    by_cases hlo : v < -4611686018427387904
    · go_wp2
      go_meet
      case rel => exact ⟨_, rfl, rfl⟩
    · by_cases hhi : 4611686018427387904 < v
      · go_wp2
        go_meet
        case rel => exact ⟨_, rfl, rfl⟩
      · go_wp2
        go_meet
        case rel => exact ⟨_, rfl, rfl⟩
  case rest =>
   obtain ⟨b, rfl, rfl⟩ := hcut
   rename World => w1
   go_upto_if 18 with fail
   go_cut [1] (fun u W => ∃ y : Int, u = .int .i64 y ∧ W = w1)
   case first =>
    cases b
    · go_wp2
      go_meet
      case rel => exact ⟨_, rfl, rfl⟩
    · go_wp2
      go_meet
      case rel => exact ⟨_, rfl, rfl⟩
   case rest =>
    obtain ⟨y, rfl, rfl⟩ := hcut
    rename World => w1
    refine ‹∀ (a : Act) (w : World), Code.wp _ _ _ a w → _› _ _ ?_
    clear yx0_1 yx1_1 yx2_1 yx3_1
    by_cases hN : R = []
    · subst hN
      have yx0_1 : World.cell? _ ⟨w.heap.size, 0, none⟩ = some (.slice A0 sx.length c0) := (blk4_c Hx1.out.blk).1
      have yx1_1 : World.cell? _ ⟨w.heap.size, 1, none⟩ = some (.slice B0 rx.length d0) := (blk4_c Hx1.out.blk).2.1
      have yx2_1 : World.cell? _ ⟨w.heap.size, 2, none⟩ = some (.slice E0 ax.length e0) := (blk4_c Hx1.out.blk).2.2.1
      have yx3_1 : World.cell? _ ⟨w.heap.size, 3, none⟩ = some (.slice F0 n0 f0) := (blk4_c Hx1.out.blk).2.2.2
      go_upto_region 5 with (go_at_call 14; refine (ref_is (n' := 0) Hx1.out 5 (by decide) (by decide) hn0 HS.out.1 HS.out.2 rfl rfl).mono ?_; rintro e w2 ⟨Ar, cr, Dr, dr, Er, er, rfl, hM, hD, hb⟩; have hx := below_box hb (.cells #[.slice Ar s.length cr, .slice Dr 0 dr] 31); have HB2 := Aside0.mk (below_then HB1.out HB1.out.size hx); have Hr2 := Aside0.mk (RelBx.new hM); have yr0_2 : World.cell? _ ⟨w2.heap.size, 0, none⟩ = some (.slice Ar s.length cr) := blk2_c0 Hr2.out.blk; have yr1_2 : World.cell? _ ⟨w2.heap.size, 1, none⟩ = some (.slice Dr 0 dr) := blk2_c1 Hr2.out.blk; clear hM hD hb hx yx0_1 yx1_1 yx2_1 yx3_1)
      go_upto_region 6 with (go_at_call 28; refine (of_rep (n' := 0) Hr2.out.rd HM.out rfl rfl y).mono ?_; rintro e w3 ⟨Aa, ca, Da, da, Ea, ea, rfl, hM, hb⟩; have hx := below_box hb (.cells #[.slice Aa s.length ca, .slice Da 0 da, .slice Ea 0 ea] 37); have HB3 := Aside0.mk (below_then HB2.out HB2.out.size hx); have Hr3 := Aside0.mk (Hr2.out.step hx); have Ha3 := Aside0.mk (WBx.new hM rfl rfl (List.length_replicate ..)); have yr0_3 : World.cell? _ ⟨w2.heap.size, 0, none⟩ = some (.slice Ar s.length cr) := blk2_c0 Hr3.out.blk; have yr1_3 : World.cell? _ ⟨w2.heap.size, 1, none⟩ = some (.slice Dr 0 dr) := blk2_c1 Hr3.out.blk; have ya0_3 : World.cell? _ ⟨w3.heap.size, 0, none⟩ = some (.slice Aa s.length ca) := (blk3_c Ha3.out.blk).1; have ya1_3 : World.cell? _ ⟨w3.heap.size, 1, none⟩ = some (.slice Da 0 da) := (blk3_c Ha3.out.blk).2.1; have ya2_3 : World.cell? _ ⟨w3.heap.size, 2, none⟩ = some (.slice Ea 0 ea) := (blk3_c Ha3.out.blk).2.2; clear hM hb hx yr0_2 yr1_2)
      go_upto_region 7 with (go_at_call 26; refine (min_nothing Ha3.out.rd rfl HM.out.rt.r.1.1 (by have := HM.out.s; omega)).mono ?_; rintro e w4 ⟨Am, cm, Dm, dm, Em, em, rfl, hM, hb⟩; have hx := below_box hb (.cells #[.slice Am 0 cm, .slice Dm 0 dm, .slice Em 0 em] 37); have HB4 := Aside0.mk (below_then HB3.out HB3.out.size hx); have Hr4 := Aside0.mk (Hr3.out.step hx); have Ha4 := Aside0.mk (Ha3.out.step hx); have Hm4 := Aside0.mk (WBx.new hM.rd rfl rfl rfl); have yr0_4 : World.cell? _ ⟨w2.heap.size, 0, none⟩ = some (.slice Ar s.length cr) := blk2_c0 Hr4.out.blk; have yr1_4 : World.cell? _ ⟨w2.heap.size, 1, none⟩ = some (.slice Dr 0 dr) := blk2_c1 Hr4.out.blk; have ya0_4 : World.cell? _ ⟨w3.heap.size, 0, none⟩ = some (.slice Aa s.length ca) := (blk3_c Ha4.out.blk).1; have ya1_4 : World.cell? _ ⟨w3.heap.size, 1, none⟩ = some (.slice Da 0 da) := (blk3_c Ha4.out.blk).2.1; have ya2_4 : World.cell? _ ⟨w3.heap.size, 2, none⟩ = some (.slice Ea 0 ea) := (blk3_c Ha4.out.blk).2.2; have ym0_4 : World.cell? _ ⟨w4.heap.size, 0, none⟩ = some (.slice Am 0 cm) := (blk3_c Hm4.out.blk).1; have ym1_4 : World.cell? _ ⟨w4.heap.size, 1, none⟩ = some (.slice Dm 0 dm) := (blk3_c Hm4.out.blk).2.1; have ym2_4 : World.cell? _ ⟨w4.heap.size, 2, none⟩ = some (.slice Em 0 em) := (blk3_c Hm4.out.blk).2.2; clear hM hb hx yr0_3 yr1_3 ya0_3 ya1_3 ya2_3)
      go_upto_region 8 with (first
          | (have hgd := HB5; clear hgd; go_at_call 25; refine (sum_nothing Hb5.out rfl HM.out.rt.r.1.1 (by have := HM.out.s; omega)).mono ?_; rintro e w6 ⟨Au, cu, Du, du, Eu, eu, rfl, hM, hb⟩; have hx := below_box hb (.cells #[.slice Au 0 cu, .slice Du 0 du, .slice Eu 0 eu] 37); have HB6 := Aside0.mk (below_then HB5.out HB5.out.size hx); have Hr6 := Aside0.mk (Hr5.out.step hx); have Ha6 := Aside0.mk (Ha5.out.step hx); have Hm6 := Aside0.mk (Hm5.out.step hx); have Hu6 := Aside0.mk (WBx.new hM.rd rfl rfl rfl); have yr0_6 : World.cell? _ ⟨w2.heap.size, 0, none⟩ = some (.slice Ar s.length cr) := blk2_c0 Hr6.out.blk; have yr1_6 : World.cell? _ ⟨w2.heap.size, 1, none⟩ = some (.slice Dr 0 dr) := blk2_c1 Hr6.out.blk; have ya0_6 : World.cell? _ ⟨w3.heap.size, 0, none⟩ = some (.slice Aa s.length ca) := (blk3_c Ha6.out.blk).1; have ya1_6 : World.cell? _ ⟨w3.heap.size, 1, none⟩ = some (.slice Da 0 da) := (blk3_c Ha6.out.blk).2.1; have ya2_6 : World.cell? _ ⟨w3.heap.size, 2, none⟩ = some (.slice Ea 0 ea) := (blk3_c Ha6.out.blk).2.2; have ym0_6 : World.cell? _ ⟨w4.heap.size, 0, none⟩ = some (.slice Am 0 cm) := (blk3_c Hm6.out.blk).1; have ym1_6 : World.cell? _ ⟨w4.heap.size, 1, none⟩ = some (.slice Dm 0 dm) := (blk3_c Hm6.out.blk).2.1; have ym2_6 : World.cell? _ ⟨w4.heap.size, 2, none⟩ = some (.slice Em 0 em) := (blk3_c Hm6.out.blk).2.2; have yu0_6 : World.cell? _ ⟨w6.heap.size, 0, none⟩ = some (.slice Au 0 cu) := (blk3_c Hu6.out.blk).1; have yu1_6 : World.cell? _ ⟨w6.heap.size, 1, none⟩ = some (.slice Du 0 du) := (blk3_c Hu6.out.blk).2.1; have yu2_6 : World.cell? _ ⟨w6.heap.size, 2, none⟩ = some (.slice Eu 0 eu) := (blk3_c Hu6.out.blk).2.2; clear hM hb hx yr0_5 yr1_5 ya0_5 ya1_5 ya2_5 ym0_5 ym1_5 ym2_5)
          | (go_at_call 28; refine (of_rep (n' := 0) Hr4.out.rd HM.out rfl rfl 2).mono ?_; rintro e w5 ⟨Ab, cb, Db, db, Eb, eb, rfl, hM, hb⟩; have HB5 := Aside0.mk (below_then HB4.out HB4.out.size hb); have Hr5 := Aside0.mk (Hr4.out.step hb); have Ha5 := Aside0.mk (Ha4.out.step hb); have Hm5 := Aside0.mk (Hm4.out.step hb); have Hb5 := Aside0.mk (hM); have yr0_5 : World.cell? _ ⟨w2.heap.size, 0, none⟩ = some (.slice Ar s.length cr) := blk2_c0 Hr5.out.blk; have yr1_5 : World.cell? _ ⟨w2.heap.size, 1, none⟩ = some (.slice Dr 0 dr) := blk2_c1 Hr5.out.blk; have ya0_5 : World.cell? _ ⟨w3.heap.size, 0, none⟩ = some (.slice Aa s.length ca) := (blk3_c Ha5.out.blk).1; have ya1_5 : World.cell? _ ⟨w3.heap.size, 1, none⟩ = some (.slice Da 0 da) := (blk3_c Ha5.out.blk).2.1; have ya2_5 : World.cell? _ ⟨w3.heap.size, 2, none⟩ = some (.slice Ea 0 ea) := (blk3_c Ha5.out.blk).2.2; have ym0_5 : World.cell? _ ⟨w4.heap.size, 0, none⟩ = some (.slice Am 0 cm) := (blk3_c Hm5.out.blk).1; have ym1_5 : World.cell? _ ⟨w4.heap.size, 1, none⟩ = some (.slice Dm 0 dm) := (blk3_c Hm5.out.blk).2.1; have ym2_5 : World.cell? _ ⟨w4.heap.size, 2, none⟩ = some (.slice Em 0 em) := (blk3_c Hm5.out.blk).2.2; clear hM hb yr0_4 yr1_4 ya0_4 ya1_4 ya2_4 ym0_4 ym1_4 ym2_4))
      go_upto_block 0 with (go_at_call 29; refine (refsame_any Ha6.out.rd.rel Hr6.out.rd (by have := HM.out.s; omega) (by have := HM.out.s; omega) HX.out HX.out true (by simp)).mono ?_; rintro e w7 ⟨rfl, hb⟩; have HB7 := Aside0.mk (below_then HB6.out HB6.out.size hb); have Hr7 := Aside0.mk (Hr6.out.step hb); have Ha7 := Aside0.mk (Ha6.out.step hb); have Hm7 := Aside0.mk (Hm6.out.step hb); have Hu7 := Aside0.mk (Hu6.out.step hb); have yr0_7 : World.cell? _ ⟨w2.heap.size, 0, none⟩ = some (.slice Ar s.length cr) := blk2_c0 Hr7.out.blk; have yr1_7 : World.cell? _ ⟨w2.heap.size, 1, none⟩ = some (.slice Dr 0 dr) := blk2_c1 Hr7.out.blk; have ya0_7 : World.cell? _ ⟨w3.heap.size, 0, none⟩ = some (.slice Aa s.length ca) := (blk3_c Ha7.out.blk).1; have ya1_7 : World.cell? _ ⟨w3.heap.size, 1, none⟩ = some (.slice Da 0 da) := (blk3_c Ha7.out.blk).2.1; have ya2_7 : World.cell? _ ⟨w3.heap.size, 2, none⟩ = some (.slice Ea 0 ea) := (blk3_c Ha7.out.blk).2.2; have ym0_7 : World.cell? _ ⟨w4.heap.size, 0, none⟩ = some (.slice Am 0 cm) := (blk3_c Hm7.out.blk).1; have ym1_7 : World.cell? _ ⟨w4.heap.size, 1, none⟩ = some (.slice Dm 0 dm) := (blk3_c Hm7.out.blk).2.1; have ym2_7 : World.cell? _ ⟨w4.heap.size, 2, none⟩ = some (.slice Em 0 em) := (blk3_c Hm7.out.blk).2.2; have yu0_7 : World.cell? _ ⟨w6.heap.size, 0, none⟩ = some (.slice Au 0 cu) := (blk3_c Hu7.out.blk).1; have yu1_7 : World.cell? _ ⟨w6.heap.size, 1, none⟩ = some (.slice Du 0 du) := (blk3_c Hu7.out.blk).2.1; have yu2_7 : World.cell? _ ⟨w6.heap.size, 2, none⟩ = some (.slice Eu 0 eu) := (blk3_c Hu7.out.blk).2.2; clear hb yr0_6 yr1_6 ya0_6 ya1_6 ya2_6 ym0_6 ym1_6 ym2_6 yu0_6 yu1_6 yu2_6)
      go_wp2_with fail
      go_loopw [11] (fun i W => i = .int .i64 0 ∧ W = w7) (fun _ _ => 0)
      case atStart => exact ⟨rfl, rfl⟩
      case round =>
        obtain ⟨rfl, rfl⟩ := hrel
        go_upto_region 15 with fail
        go_quiet (fail)
        go_wp2
        go_ret
        exact ⟨rfl, below_then HB7.out HB7.out.size (pw_below_drewN (Below.refl _ _) _)⟩
    · have hpos : 0 < R.length := List.length_pos_iff.2 hN
      have hposi : (0 : Int) < (R.length : Int) := by omega
      obtain ⟨y2, hy2⟩ : ∃ y2, (2 : Int) * (R.length : Int) = y2 := ⟨_, rfl⟩
      have HN := Aside0.mk hN
      have HT2 := Aside0.mk (show tot (List.replicate R.length 2) ≤ 4611686018427387904 from by rw [tot_rep]; simp; omega)
      have HS2 := Aside0.mk (show (List.replicate R.length (2 : Int)).sum = y2 from by rw [sum_rep, ← hy2, Int.mul_comm])
      have HY := Aside0.mk (show ∀ y, least (List.replicate R.length y) = y from fun y => by obtain ⟨n, hn⟩ : ∃ n, R.length = n + 1 := ⟨R.length - 1, by omega⟩; rw [hn]; exact least_rep n y)
      have HY2 := Aside0.mk hy2
      clear hN hy2
      have yx0_1 : World.cell? _ ⟨w.heap.size, 0, none⟩ = some (.slice A0 sx.length c0) := (blk4_c Hx1.out.blk).1
      have yx1_1 : World.cell? _ ⟨w.heap.size, 1, none⟩ = some (.slice B0 rx.length d0) := (blk4_c Hx1.out.blk).2.1
      have yx2_1 : World.cell? _ ⟨w.heap.size, 2, none⟩ = some (.slice E0 ax.length e0) := (blk4_c Hx1.out.blk).2.2.1
      have yx3_1 : World.cell? _ ⟨w.heap.size, 3, none⟩ = some (.slice F0 n0 f0) := (blk4_c Hx1.out.blk).2.2.2
      go_upto_region 5 with (go_at_call 14; refine (ref_is (n' := R.length) Hx1.out 5 (by decide) (by decide) hn0 HS.out.1 HS.out.2 rfl rfl).mono ?_; rintro e w2 ⟨Ar, cr, Dr, dr, Er, er, rfl, hM, hD, hb⟩; have hx := below_box hb (.cells #[.slice Ar s.length cr, .slice Dr R.length dr] 31); have HB2 := Aside0.mk (below_then HB1.out HB1.out.size hx); have Hr2 := Aside0.mk (RelBx.new hM); have yr0_2 : World.cell? _ ⟨w2.heap.size, 0, none⟩ = some (.slice Ar s.length cr) := blk2_c0 Hr2.out.blk; have yr1_2 : World.cell? _ ⟨w2.heap.size, 1, none⟩ = some (.slice Dr R.length dr) := blk2_c1 Hr2.out.blk; clear hM hD hb hx yx0_1 yx1_1 yx2_1 yx3_1)
      go_upto_region 6 with (go_at_call 28; refine (of_rep (n' := R.length) Hr2.out.rd HM.out rfl rfl y).mono ?_; rintro e w3 ⟨Aa, ca, Da, da, Ea, ea, rfl, hM, hb⟩; have hx := below_box hb (.cells #[.slice Aa s.length ca, .slice Da R.length da, .slice Ea R.length ea] 37); have HB3 := Aside0.mk (below_then HB2.out HB2.out.size hx); have Hr3 := Aside0.mk (Hr2.out.step hx); have Ha3 := Aside0.mk (WBx.new hM rfl rfl (List.length_replicate ..)); have yr0_3 : World.cell? _ ⟨w2.heap.size, 0, none⟩ = some (.slice Ar s.length cr) := blk2_c0 Hr3.out.blk; have yr1_3 : World.cell? _ ⟨w2.heap.size, 1, none⟩ = some (.slice Dr R.length dr) := blk2_c1 Hr3.out.blk; have ya0_3 : World.cell? _ ⟨w3.heap.size, 0, none⟩ = some (.slice Aa s.length ca) := (blk3_c Ha3.out.blk).1; have ya1_3 : World.cell? _ ⟨w3.heap.size, 1, none⟩ = some (.slice Da R.length da) := (blk3_c Ha3.out.blk).2.1; have ya2_3 : World.cell? _ ⟨w3.heap.size, 2, none⟩ = some (.slice Ea R.length ea) := (blk3_c Ha3.out.blk).2.2; clear hM hb hx yr0_2 yr1_2)
      go_upto_region 7 with (go_at_call 26; refine (min_some Ha3.out.rd rfl rfl (List.length_replicate ..) HM.out.rt.r.1.1 (by have := HM.out.s; omega) (List.length_replicate ..) (by have := HM.out.l; omega) HN.out (HY.out y)).mono ?_; rintro e w4 ⟨Am, cm, Dm, dm, Em, em, rfl, hM, hb⟩; obtain ⟨qm, rfl, hqm⟩ := at_int' hM.rd.w (Below.refl _ _) 0 (by decide) (by simp); simp only [Int.toNat_zero, Addr.add_zero'] at hqm; replace hqm : w4.cell? qm = some (.int .i64 y) := hqm; have hx := below_box hb (.cells #[.slice Am 0 cm, .slice Dm 1 dm, .slice (some qm) 1 em] 37); have HB4 := Aside0.mk (below_then HB3.out HB3.out.size hx); have Hr4 := Aside0.mk (Hr3.out.step hx); have Ha4 := Aside0.mk (Ha3.out.step hx); have Hm4 := Aside0.mk (WBx.new hM.rd rfl rfl rfl); have Hmv4 := Aside0.mk (cell_below (below_alloc (Below.refl _ _) (.cells #[.slice Am 0 cm, .slice Dm 1 dm, .slice (some qm) 1 em] 37)) hqm); have yr0_4 : World.cell? _ ⟨w2.heap.size, 0, none⟩ = some (.slice Ar s.length cr) := blk2_c0 Hr4.out.blk; have yr1_4 : World.cell? _ ⟨w2.heap.size, 1, none⟩ = some (.slice Dr R.length dr) := blk2_c1 Hr4.out.blk; have ya0_4 : World.cell? _ ⟨w3.heap.size, 0, none⟩ = some (.slice Aa s.length ca) := (blk3_c Ha4.out.blk).1; have ya1_4 : World.cell? _ ⟨w3.heap.size, 1, none⟩ = some (.slice Da R.length da) := (blk3_c Ha4.out.blk).2.1; have ya2_4 : World.cell? _ ⟨w3.heap.size, 2, none⟩ = some (.slice Ea R.length ea) := (blk3_c Ha4.out.blk).2.2; have ym0_4 : World.cell? _ ⟨w4.heap.size, 0, none⟩ = some (.slice Am 0 cm) := (blk3_c Hm4.out.blk).1; have ym1_4 : World.cell? _ ⟨w4.heap.size, 1, none⟩ = some (.slice Dm 1 dm) := (blk3_c Hm4.out.blk).2.1; have ym2_4 : World.cell? _ ⟨w4.heap.size, 2, none⟩ = some (.slice (some qm) 1 em) := (blk3_c Hm4.out.blk).2.2; have ymv0_4 : World.cell? _ qm = some (.int .i64 y) := Hmv4.out; clear hM hqm hb hx yr0_3 yr1_3 ya0_3 ya1_3 ya2_3)
      go_upto_region 8 with (first
          | (have hgd := HB5; clear hgd; go_at_call 25; refine (sum_some Hb5.out rfl rfl (List.length_replicate ..) HM.out.rt.r.1.1 (by have := HM.out.s; omega) (List.length_replicate ..) (by have := HM.out.l; omega) HN.out HT2.out HS2.out).mono ?_; rintro e w6 ⟨Au, cu, Du, du, Eu, eu, rfl, hM, hb⟩; obtain ⟨qu, rfl, hqu⟩ := at_int' hM.rd.w (Below.refl _ _) 0 (by decide) (by simp); simp only [Int.toNat_zero, Addr.add_zero'] at hqu; replace hqu : w6.cell? qu = some (.int .i64 y2) := hqu; have hx := below_box hb (.cells #[.slice Au 0 cu, .slice Du 1 du, .slice (some qu) 1 eu] 37); have HB6 := Aside0.mk (below_then HB5.out HB5.out.size hx); have Hr6 := Aside0.mk (Hr5.out.step hx); have Ha6 := Aside0.mk (Ha5.out.step hx); have Hm6 := Aside0.mk (Hm5.out.step hx); have Hmv6 := Aside0.mk (cell_below hx Hmv5.out); have Hu6 := Aside0.mk (WBx.new hM.rd rfl rfl rfl); have Huv6 := Aside0.mk (cell_below (below_alloc (Below.refl _ _) (.cells #[.slice Au 0 cu, .slice Du 1 du, .slice (some qu) 1 eu] 37)) hqu); have yr0_6 : World.cell? _ ⟨w2.heap.size, 0, none⟩ = some (.slice Ar s.length cr) := blk2_c0 Hr6.out.blk; have yr1_6 : World.cell? _ ⟨w2.heap.size, 1, none⟩ = some (.slice Dr R.length dr) := blk2_c1 Hr6.out.blk; have ya0_6 : World.cell? _ ⟨w3.heap.size, 0, none⟩ = some (.slice Aa s.length ca) := (blk3_c Ha6.out.blk).1; have ya1_6 : World.cell? _ ⟨w3.heap.size, 1, none⟩ = some (.slice Da R.length da) := (blk3_c Ha6.out.blk).2.1; have ya2_6 : World.cell? _ ⟨w3.heap.size, 2, none⟩ = some (.slice Ea R.length ea) := (blk3_c Ha6.out.blk).2.2; have ym0_6 : World.cell? _ ⟨w4.heap.size, 0, none⟩ = some (.slice Am 0 cm) := (blk3_c Hm6.out.blk).1; have ym1_6 : World.cell? _ ⟨w4.heap.size, 1, none⟩ = some (.slice Dm 1 dm) := (blk3_c Hm6.out.blk).2.1; have ym2_6 : World.cell? _ ⟨w4.heap.size, 2, none⟩ = some (.slice (some qm) 1 em) := (blk3_c Hm6.out.blk).2.2; have ymv0_6 : World.cell? _ qm = some (.int .i64 y) := Hmv6.out; have yu0_6 : World.cell? _ ⟨w6.heap.size, 0, none⟩ = some (.slice Au 0 cu) := (blk3_c Hu6.out.blk).1; have yu1_6 : World.cell? _ ⟨w6.heap.size, 1, none⟩ = some (.slice Du 1 du) := (blk3_c Hu6.out.blk).2.1; have yu2_6 : World.cell? _ ⟨w6.heap.size, 2, none⟩ = some (.slice (some qu) 1 eu) := (blk3_c Hu6.out.blk).2.2; have yuv0_6 : World.cell? _ qu = some (.int .i64 y2) := Huv6.out; clear hM hqu hb hx yr0_5 yr1_5 ya0_5 ya1_5 ya2_5 ym0_5 ym1_5 ym2_5 ymv0_5)
          | (go_at_call 28; refine (of_rep (n' := R.length) Hr4.out.rd HM.out rfl rfl 2).mono ?_; rintro e w5 ⟨Ab, cb, Db, db, Eb, eb, rfl, hM, hb⟩; have HB5 := Aside0.mk (below_then HB4.out HB4.out.size hb); have Hr5 := Aside0.mk (Hr4.out.step hb); have Ha5 := Aside0.mk (Ha4.out.step hb); have Hm5 := Aside0.mk (Hm4.out.step hb); have Hmv5 := Aside0.mk (cell_below hb Hmv4.out); have Hb5 := Aside0.mk (hM); have yr0_5 : World.cell? _ ⟨w2.heap.size, 0, none⟩ = some (.slice Ar s.length cr) := blk2_c0 Hr5.out.blk; have yr1_5 : World.cell? _ ⟨w2.heap.size, 1, none⟩ = some (.slice Dr R.length dr) := blk2_c1 Hr5.out.blk; have ya0_5 : World.cell? _ ⟨w3.heap.size, 0, none⟩ = some (.slice Aa s.length ca) := (blk3_c Ha5.out.blk).1; have ya1_5 : World.cell? _ ⟨w3.heap.size, 1, none⟩ = some (.slice Da R.length da) := (blk3_c Ha5.out.blk).2.1; have ya2_5 : World.cell? _ ⟨w3.heap.size, 2, none⟩ = some (.slice Ea R.length ea) := (blk3_c Ha5.out.blk).2.2; have ym0_5 : World.cell? _ ⟨w4.heap.size, 0, none⟩ = some (.slice Am 0 cm) := (blk3_c Hm5.out.blk).1; have ym1_5 : World.cell? _ ⟨w4.heap.size, 1, none⟩ = some (.slice Dm 1 dm) := (blk3_c Hm5.out.blk).2.1; have ym2_5 : World.cell? _ ⟨w4.heap.size, 2, none⟩ = some (.slice (some qm) 1 em) := (blk3_c Hm5.out.blk).2.2; have ymv0_5 : World.cell? _ qm = some (.int .i64 y) := Hmv5.out; clear hM hb yr0_4 yr1_4 ya0_4 ya1_4 ya2_4 ym0_4 ym1_4 ym2_4 ymv0_4))
      go_upto_block 0 with (go_at_call 29; refine (refsame_any Ha6.out.rd.rel Hr6.out.rd (by have := HM.out.s; omega) (by have := HM.out.s; omega) HX.out HX.out true (by simp)).mono ?_; rintro e w7 ⟨rfl, hb⟩; have HB7 := Aside0.mk (below_then HB6.out HB6.out.size hb); have Hr7 := Aside0.mk (Hr6.out.step hb); have Ha7 := Aside0.mk (Ha6.out.step hb); have Hm7 := Aside0.mk (Hm6.out.step hb); have Hmv7 := Aside0.mk (cell_below hb Hmv6.out); have Hu7 := Aside0.mk (Hu6.out.step hb); have Huv7 := Aside0.mk (cell_below hb Huv6.out); have yr0_7 : World.cell? _ ⟨w2.heap.size, 0, none⟩ = some (.slice Ar s.length cr) := blk2_c0 Hr7.out.blk; have yr1_7 : World.cell? _ ⟨w2.heap.size, 1, none⟩ = some (.slice Dr R.length dr) := blk2_c1 Hr7.out.blk; have ya0_7 : World.cell? _ ⟨w3.heap.size, 0, none⟩ = some (.slice Aa s.length ca) := (blk3_c Ha7.out.blk).1; have ya1_7 : World.cell? _ ⟨w3.heap.size, 1, none⟩ = some (.slice Da R.length da) := (blk3_c Ha7.out.blk).2.1; have ya2_7 : World.cell? _ ⟨w3.heap.size, 2, none⟩ = some (.slice Ea R.length ea) := (blk3_c Ha7.out.blk).2.2; have ym0_7 : World.cell? _ ⟨w4.heap.size, 0, none⟩ = some (.slice Am 0 cm) := (blk3_c Hm7.out.blk).1; have ym1_7 : World.cell? _ ⟨w4.heap.size, 1, none⟩ = some (.slice Dm 1 dm) := (blk3_c Hm7.out.blk).2.1; have ym2_7 : World.cell? _ ⟨w4.heap.size, 2, none⟩ = some (.slice (some qm) 1 em) := (blk3_c Hm7.out.blk).2.2; have ymv0_7 : World.cell? _ qm = some (.int .i64 y) := Hmv7.out; have yu0_7 : World.cell? _ ⟨w6.heap.size, 0, none⟩ = some (.slice Au 0 cu) := (blk3_c Hu7.out.blk).1; have yu1_7 : World.cell? _ ⟨w6.heap.size, 1, none⟩ = some (.slice Du 1 du) := (blk3_c Hu7.out.blk).2.1; have yu2_7 : World.cell? _ ⟨w6.heap.size, 2, none⟩ = some (.slice (some qu) 1 eu) := (blk3_c Hu7.out.blk).2.2; have yuv0_7 : World.cell? _ qu = some (.int .i64 y2) := Huv7.out; clear hb yr0_6 yr1_6 ya0_6 ya1_6 ya2_6 ym0_6 ym1_6 ym2_6 ymv0_6 yu0_6 yu1_6 yu2_6 yuv0_6)
      go_wp2_with fail
      go_loopw [11] (fun i W => ∃ k : Nat, k ≤ R.length ∧ i = .int .i64 k ∧ W = w7) (fun i _ => R.length - (intOf i).toNat)
      case atStart => exact ⟨0, Nat.zero_le _, rfl, rfl⟩
      case round =>
        obtain ⟨k, hk, rfl, rfl⟩ := hrel
        by_cases hlt : k < R.length
        · have hki : (k : Int) < (R.length : Int) := by omega
          obtain ⟨qa, hqa, hx⟩ := at_int' Ha7.out.rd.w (Below.refl _ _) (k : Int) (by omega) (by simp; omega)
          simp only [Int.toNat_natCast] at hx
          have hx2 : World.cell? _ _ = some (.int .i64 y) := hx.trans (by rw [rd_rep _ _ hlt])
          clear hx
          subst hqa
          go_wp2
          go_roundw
          case measure => simp [intOf]; omega
          case rel => exact ⟨k + 1, by omega, by go_num, by first | trivial | rfl⟩
        · have hkn : decide ((k : Int) < (R.length : Int)) = false := decide_eq_false (by omega)
          have hkn2 : decide (k < R.length) = false := decide_eq_false (by omega)
          have hy2 : IntKind.i64.wrap ((2 : Int) * (R.length : Int)) = y2 := (Go.IntWalk.i64_in _ (by omega)).trans HY2.out
          have hz1 : (((R.length : Nat) : Int) == 0) = false := beq_eq_false_iff_ne.2 (by omega)
          have hz2 : (R.length == 0) = false := beq_eq_false_iff_ne.2 (by omega)
          have hz3 : decide (R.length = 0) = false := decide_eq_false (by omega)
          go_upto_region 15 with fail
          go_quiet (fail)
          go_wp2
          go_ret
          exact ⟨rfl, below_then HB7.out HB7.out.size (pw_below_drewN (Below.refl _ _) _)⟩
end Go.Proofs.YtlmkgghpaaadhaaGreatDoor.G

namespace Go.Proofs.YtlmkgghpaaadhaaGreatDoor.weighOf
open Go.ChangeShapes Go.WideShapes Go.ChangeAt Go.RowKit Go.Proofs.YtlmkgghpaaadhaaGreatDoorW.PrintWords Go.Proofs.YtlmkgghpaaadhaaGreatDoorW.PrintLast Go.Proofs.YtlmkgghpaaadhaaGreatDoorW.PrintMore Go.Proofs.YtlmkgghpaaadhaaGreatDoor.PRefs
set_option linter.unusedVariables false
theorem own : ownKnob Tryz.prog.godebug = none := by kernel_rfl
theorem laidOut : laidOutB Tryz.prog = true := by kernel_rfl
set_option maxRecDepth 100000 in
theorem lifted (os : Os) (started : os.Started) (H : Type) (enc : TypeId × Value → H) :
    ReturnsInHanded {} Tryz.checked os 7 .any (fun w args => (Rows.weighOfSpec.pre enc Tryz.prog Tryz.f7 [] false w args ∧ laidMetH Tryz.prog G.laidList w) ∧ sizedMet enc Tryz.prog Tryz.f7 (OpenSpec.ofChange Rows.weighOfSpec) false w args)
      (Rows.weighOfSpec.post enc Tryz.prog Tryz.f7 false true false false) := by
  refine returnsInHanded_of_change_and (C := Tryz.checked) (X := fun w _ => laidMetH Tryz.prog G.laidList w) (fun _ _ _ hh h => h.of_heap hh) own started (by kernel_rfl) Tryz.func7
    (ChangeSpec.witness_shaped (enc := enc) (C := Tryz.checked) (os := os) (X := fun w _ => laidMetH Tryz.prog G.laidList w) false (World.doorLaid Tryz.prog 400 os) #[.agg #[.slice none 0 0, .slice none 0 0, .slice none 0 0, .slice none 0 0], .int .i64 0] 8 rfl (World.shaped_of_RefB (by kernel_rfl) (by kernel_rfl)) (by kernel_rfl) (by kernel_rfl) (by kernel_rfl) (G.door_met os _)) ?_
  intro W base args ds gs before hval0 hW _ _ hL _
  have htab := G.tab_of hL
  have hval : ∀ (j : Nat) t v, Tryz.f7.params[j]? = some t → args[j]? = some v → Value.okWide Tryz.prog W .any base t v := hval0
  have hW' := hW
  obtain ⟨p, q, hA0, hV, rfl, hfz, hnd⟩ := hW
  have hA : DataW.TrodAll enc Tryz.prog W 0 (fun _ => true) true Tryz.f7.params.toList args.toList ds p := hA0
  rw [Tryz.params7] at hA hval
  obtain ⟨v0, vs0, d0, ds0, p0, q0, hargs, rfl, rfl, h0, r0⟩ := trodAll_cons hA
  obtain ⟨v1, vs1, d1, ds1, p1, q1, rfl, rfl, rfl, h1, r1⟩ := trodAll_cons r0
  obtain ⟨rfl, rfl, rfl⟩ := trodAll_nil r1
  obtain rfl : args = #[v0, v1] := by cases args; simp_all
  obtain ⟨rfl, rfl⟩ := trodVars_none hV
  obtain ⟨cs0, rfl, hcs0⟩ := okWide_struct Tryz.underlying26 (hval 0 26 v0 rfl rfl)
  have k0 := h0
  have lt0 : ∀ x ∈ p0, x.block < W.heap.size := by obtain ⟨m, hm⟩ := k0; exact DataW.trod_lt m _ _ _ hm
  obtain ⟨a0, cap0, z0, ar0, capr0, zr0, ab0, capb0, zb0, ac0, nc0, capc0, rfl, c0, b0, m0⟩ := (by obtain ⟨m, hm⟩ := h0; exact G.in_part4 hm : ∃ A c sc A' c' L Aa ca xA Ab nb cb, cs0 = #[.slice A sc.length c, .slice A' L.length c', .slice Aa xA.length ca, .slice Ab nb cb] ∧ G.RelRd W A c sc A' c' L ∧ Kd.C G.KI W Aa xA.length xA ∧ nb ≤ 9223372036854775807)
  obtain ⟨a1, rfl, rfl, rfl, w1⟩ := open_int Tryz.underlying2 (hval 1 2 v1 rfl rfl) h1
  clear hA0 hval0
  refine (G.weighof_walk a0 cap0 z0 ar0 capr0 zr0 ab0 capb0 zb0 ac0 nc0 capc0 a1 W c0 b0 m0 htab).mono fun e W' ⟨he, bel⟩ => ?_
  subst he
  exact ⟨_, rfl, _, _, _, [], _, [], hW', trodAll_mk1 (shut_bool Tryz.underlying4 _), (trodAll_cons_mk (Below.trod laidOut (by kernel_rfl) (of_decide_eq_true (by kernel_rfl)) k0 bel lt0) (trodAll_cons_mk (shut_int Tryz.underlying2 w1) trodAll_mk0)), rfl, bel.frame _, fun h => by cases h⟩
theorem over : Rows.weighOfRow.holds Tryz.pinned (OpenSpec.ofChange Rows.weighOfSpec) :=
  OpenClaim.holds_of_wide 7 Tryz.f7 rfl rfl rfl rfl rfl rfl rfl ⟨rfl, rfl, rfl, rfl, rfl⟩ rfl rfl rfl rfl rfl (by kernel_rfl) Tryz.func7 (by kernel_rfl)
    (of_decide_eq_true (by kernel_rfl)) (by unfold Func.isWrapper; first | (rw [if_pos (by decide +kernel)]; kernel_rfl) | (rw [if_neg (by decide +kernel)]; exact ⟨rfl, rfl⟩))
    (fun os started H enc _ => lifted os started H enc)
theorem proved : Rows.WeighOfCardSaid :=
  Claim7.holds_tied_plain_at .later [] [.data, .data, .data] true Rows.weighOfCard.stood.harness true
    over (fun _ h => by cases h) (by kernel_rfl) (fun _ h => by cases h) weighOf_row_tie rfl ⟨rfl, rfl⟩ (by kernel_rfl) rfl
    (fun f fn hf hfn => by
      obtain rfl : f = 7 := Option.some.inj ((show Tryz.prog.funcNamed "arborist/arboristlaw04.WeighOf" = some 7 by kernel_rfl).symm.trans hf) |>.symm
      obtain rfl : fn = Tryz.f7 := (Option.some.inj (Tryz.func7.symm.trans hfn)).symm
      exact ⟨by kernel_rfl, fun j t ht => by
        rw [Tryz.params7] at ht
        have hm : t ∈ [26, 2] := by simpa using Array.mem_of_getElem? ht
        have hall : ([26, 2].all fun u => !Tryz.prog.wantsStandIn u) = true := by kernel_rfl
        exact (show Tryz.prog.wantsStandIn t = false by simpa using List.all_eq_true.1 hall t hm)⟩)
    (by kernel_rfl)
#print axioms proved
end Go.Proofs.YtlmkgghpaaadhaaGreatDoor.weighOf
