/- Proved: for every input the law arboristlaw02.RelPasses returns true and its arguments read as they did. No condition. -/
import Derived.Test.YtlinhcgggfdlpaaRows
import Derived.Test.YtlinhcgggfdlpaaBox
import Derived.Test.YtlinhcgggfdlpaaDocs
import Derived.Deep.Matrix
import Derived.ProofKit
import Derived.OpenShut
import Derived.WalkKit
import Derived.ShutString
import Derived.ChangeOld
import Derived.Below
set_option linter.unusedVariables false
set_option linter.unusedSimpArgs false
namespace Go.Proofs.Ytlinhcgggfdlpaa.G
open Go.RowKit Go.Proofs.YtlinhcgggfdlpaaW.PrintWords Go.Proofs.YtlinhcgggfdlpaaW.PrintLast Go.Proofs.YtlinhcgggfdlpaaW.PrintMore Go.Proofs.Ytlinhcgggfdlpaa.PRefs
attribute [local go_sem] min2_mn min_two

set_option maxHeartbeats 2000000 in
set_option maxRecDepth 100000 in
theorem relpasses_walk (A0 : Option Addr) (c0 : Nat) (sch : List Int) (A1 : Option Addr) (c1 : Nat) (rows : List (List Int)) (v0 : Int) (value0 : Int) (A4 : Option Addr) (c4 : Nat) (vs0 : List Int) (w : World) (hr0 : Kd.C KI w A0 sch.length sch) (hc0 : sch.length ≤ c0) (hr1 : Kd.C KL w A1 rows.length rows) (hc1 : rows.length ≤ c1) (hr4 : Kd.C KI w A4 vs0.length vs0) (hc4 : vs0.length ≤ c4) :
    Calls Try.prog 9 #[.slice A0 sch.length c0, .slice A1 rows.length c1, .int .i64 v0, .int .i64 value0, .slice A4 vs0.length c4] w fun e w' => e = .returned (.bool true) ∧ Below w.heap.size w w' := by
  have HIN := Aside0.mk (And.intro hr0 (And.intro hr1 hr4))
  have hP := right_small sch rows
  have hz := sz_small sch rows
  have HF := Aside0.mk (Small_f sch rows 4000 (Nat.le_refl _))
  generalize smallRows (smallS sch).length rows = L at *
  generalize smallS sch = SC at *
  obtain ⟨hcut1, hcut2, hcut3⟩ := cut10m A4 c4 vs0 hc4
  have hVl : (vs0.take 10).length ≤ 10 := by simp; omega
  generalize vs0.take 10 = VS at *
  obtain ⟨v, hv⟩ : ∃ v, (Go.bits .and .i64 v0 65535).tmod 6 = v := ⟨_, rfl⟩
  obtain ⟨value, hvalue⟩ : ∃ v, (Go.bits .and .i64 value0 65535).tmod 4 = v := ⟨_, rfl⟩
  have hV : (v :: VS).length ≤ 1000 := by simp; omega
  have hz1 := sz_sel hz v value
  have hp1 := right_sel hP v value
  have hz2 := sz_proj hz1 (v :: VS) hp1
  have hp2 := right_proj hp1 (v :: VS)
  have hz3 := sz_proj hz (v :: VS) hP
  have eb := sel_proj hP v value VS
  have es := sel_sel SC L v value
  obtain ⟨⟨S1, L1⟩, e1⟩ : ∃ r, selRel SC L v value = r := ⟨_, rfl⟩
  have hs1 : S1 = SC := by have := congrArg Prod.fst e1; exact this.symm
  subst hs1
  rw [e1] at hz1 hp1 hz2 hp2 eb es
  simp only at hz1 hp1 hz2 hp2 eb es
  obtain ⟨⟨S2, L2⟩, e2⟩ : ∃ r, projRel S1 L1 (v :: VS) = r := ⟨_, rfl⟩
  rw [e2] at hz2 hp2 eb
  simp only at hz2 hp2
  obtain ⟨⟨S3, L3⟩, e3⟩ : ∃ r, projRel S1 L (v :: VS) = r := ⟨_, rfl⟩
  rw [e3] at hz3 eb
  simp only at hz3 eb
  have HRT := Aside0.mk (RightR_f S2 L2 5000000 (by have := hz2.s; omega) (by have := hz2.l; omega) (fun x hx => by have := hz2.x x hx; omega) (Nat.le_refl _))
  rw [decide_eq_true hp2] at HRT
  have HE := Aside0.mk (And.intro e1 (And.intro e2 (And.intro e3 (And.intro eb.symm es))))
  clear e1 e2 e3 eb es hp1 hp2 hP
  clear hr0 hr1 hr4
  have hf1 := rel_field1
  go_enter Try.func9, Try.ntmps9
  go_wp2_with (first
    | (have hgd := HB8; clear hgd; go_at_call 26; refine (select_is Hs8.out hz1 HE.out.2.2.2.2).mono ?_; rintro e w9 ⟨Ac, cc, Dc, dc, rfl, hr9, hb9⟩; have hx9 := below_box hb9 (.cells #[.slice Ac S1.length cc, .slice Dc L1.length dc] 25); have HB9 := Aside0.mk (below_then HB8.out HB8.out.size hx9); have Hr9 := Aside0.mk (Hr8.out.step hx9); have Ha9 := Aside0.mk (Ha8.out.step hx9); have Hb9 := Aside0.mk (Hb8.out.step hx9); have Hc9 := Aside0.mk (RelBx.new hr9); have qr0_9 := blk2_c0 Hr9.out.blk; have qr1_9 := blk2_c1 Hr9.out.blk; have qa0_9 := blk2_c0 Ha9.out.blk; have qa1_9 := blk2_c1 Ha9.out.blk; have qb0_9 := blk2_c0 Hb9.out.blk; have qb1_9 := blk2_c1 Hb9.out.blk; have qc0_9 := blk2_c0 Hc9.out.blk; have qc1_9 := blk2_c1 Hc9.out.blk; clear hb9 hr9 hx9 Hs8 Hr8 Ha8 Hb8 qr0_8 qr1_8 qa0_8 qa1_8 qb0_8 qb1_8)
    | (have hgd := HB7; clear hgd; go_at_call 26; refine (select_is Hr7.out.rd hz HE.out.1).mono ?_; rintro e w8 ⟨As, cs, Ds, ds, rfl, hr8, hb8⟩; have HB8 := Aside0.mk (below_then HB7.out HB7.out.size hb8); have Hr8 := Aside0.mk (Hr7.out.step hb8); have Ha8 := Aside0.mk (Ha7.out.step hb8); have Hb8 := Aside0.mk (Hb7.out.step hb8); have Hs8 := Aside0.mk (hr8); have qr0_8 := blk2_c0 Hr8.out.blk; have qr1_8 := blk2_c1 Hr8.out.blk; have qa0_8 := blk2_c0 Ha8.out.blk; have qa1_8 := blk2_c1 Ha8.out.blk; have qb0_8 := blk2_c0 Hb8.out.blk; have qb1_8 := blk2_c1 Hb8.out.blk; clear hb8 hr8 Hr7 Ha7 Hb7 qr0_7 qr1_7 qa0_7 qa1_7 qb0_7 qb1_7)
    | (have hgd := HB6; clear hgd; go_at_call 26; refine (select_is Hp6.out hz3 HE.out.2.2.2.1).mono ?_; rintro e w7 ⟨Ab, cb, Db, db, rfl, hr7, hb7⟩; have hx7 := below_box hb7 (.cells #[.slice Ab S2.length cb, .slice Db L2.length db] 25); have HB7 := Aside0.mk (below_then HB6.out HB6.out.size hx7); have Hr7 := Aside0.mk (Hr6.out.step hx7); have Ha7 := Aside0.mk (Ha6.out.step hx7); have Hb7 := Aside0.mk (RelBx.new hr7); have qr0_7 := blk2_c0 Hr7.out.blk; have qr1_7 := blk2_c1 Hr7.out.blk; have qa0_7 := blk2_c0 Ha7.out.blk; have qa1_7 := blk2_c1 Ha7.out.blk; have qb0_7 := blk2_c0 Hb7.out.blk; have qb1_7 := blk2_c1 Hb7.out.blk; clear hb7 hr7 hx7 Hp6 Hv6 Hr6 Ha6 qr0_6 qr1_6 qa0_6 qa1_6)
    | (have hgd := HB5; clear hgd; go_at_call 25; refine (project_is Hr5.out.rd hz Hv5.out hV HE.out.2.2.1).mono ?_; rintro e w6 ⟨Ap, cp, Dp, dp, rfl, hr6, hb6⟩; have HB6 := Aside0.mk (below_then HB5.out HB5.out.size hb6); have Hr6 := Aside0.mk (Hr5.out.step hb6); have Hv6 := Aside0.mk (Kd.C_below Hv5.out hb6); have Ha6 := Aside0.mk (Ha5.out.step hb6); have Hp6 := Aside0.mk (hr6); have qr0_6 := blk2_c0 Hr6.out.blk; have qr1_6 := blk2_c1 Hr6.out.blk; have qa0_6 := blk2_c0 Ha6.out.blk; have qa1_6 := blk2_c1 Ha6.out.blk; clear hb6 hr6 Hr5 Hv5 Ha5 qr0_5 qr1_5 qa0_5 qa1_5)
    | (have hgd := HB4; clear hgd; go_at_call 25; refine (project_is Hs4.out hz1 Hv4.out hV HE.out.2.1).mono ?_; rintro e w5 ⟨Aa, ca, Da, da, rfl, hr5, hb5⟩; have hx5 := below_box hb5 (.cells #[.slice Aa S2.length ca, .slice Da L2.length da] 25); have HB5 := Aside0.mk (below_then HB4.out HB4.out.size hx5); have Hr5 := Aside0.mk (Hr4.out.step hx5); have Hv5 := Aside0.mk (Kd.C_below Hv4.out hx5); have Ha5 := Aside0.mk (RelBx.new hr5); have qr0_5 := blk2_c0 Hr5.out.blk; have qr1_5 := blk2_c1 Hr5.out.blk; have qa0_5 := blk2_c0 Ha5.out.blk; have qa1_5 := blk2_c1 Ha5.out.blk; clear hb5 hr5 hx5 Hs4 Hr4 Hv4 qr0_4 qr1_4)
    | (have hgd := HB3; clear hgd; go_at_call 26; refine (select_is Hr3.out.rd hz HE.out.1).mono ?_; rintro e w4 ⟨As, cs, Ds, ds, rfl, hr4, hb4⟩; have HB4 := Aside0.mk (below_then HB3.out HB3.out.size hb4); have Hr4 := Aside0.mk (Hr3.out.step hb4); have Hv4 := Aside0.mk (Kd.C_below Hv3.out hb4); have Hs4 := Aside0.mk (hr4); have qr0_4 := blk2_c0 Hr4.out.blk; have qr1_4 := blk2_c1 Hr4.out.blk; clear hb4 hr4 Hr3 Hv3 qr0_3 qr1_3)
    | (have hgd := HB2; clear hgd; at_builtin; have hlit := lit_row (w2.alloc (.cells #[.slice Ar S1.length cr, .slice Dr L.length dr] 25)) [v] (w2.alloc (.cells #[.slice Ar S1.length cr, .slice Dr L.length dr] 25)).heap.size (Nat.le_refl _) (by simp); rw [World.size_alloc] at hlit; refine app_ints (w := (w2.alloc (.cells #[.slice Ar S1.length cr, .slice Dr L.length dr] 25)).alloc (.cells #[.int .i64 v] 3)) (w2.heap.size + 1) rfl (.tmp 27) (.tmp 32) rfl _ [v] VS A4 c4 rfl rfl ⟨hlit⟩ (Kd.C_below (hcut2 w HIN.out.2.2) (below_then HB2.out HB2.out.size (below_alloc (Below.refl _ _) _))) ⟨Below.refl _ _⟩ (by simp) (by simp; omega) ?_; intro u3 w3 HO3 HBX HG3; obtain ⟨Av, cv, rfl, hcv, hrv⟩ := Kd.R_reads HO3.out; have hx3 : Below (w2.alloc (.cells #[.slice Ar S1.length cr, .slice Dr L.length dr] 25)).heap.size (w2.alloc (.cells #[.slice Ar S1.length cr, .slice Dr L.length dr] 25)) w3 := (below_alloc (Below.refl _ _) (.cells #[.int .i64 v] 3)).trans (by rw [World.size_alloc]; exact HBX.out); have HB3 := Aside0.mk (below_then HB2.out HB2.out.size hx3); have Hr3 := Aside0.mk (Hr2.out.step hx3); have Hv3 := Aside0.mk hrv; have qr0_3 := blk2_c0 Hr3.out.blk; have qr1_3 := blk2_c1 Hr3.out.blk; clear hlit hx3 hrv Hr2 qr0_2 qr1_2 HO3 HBX HG3)
    | (have hgd := HB1; clear hgd; go_at_call 19; refine (small_is A0 c0 sch A1 c1 rows _ (Kd.C_below HIN.out.1 HB1.out) hc0 (Kd.C_below HIN.out.2.1 HB1.out) hc1 HF.out).mono ?_; rintro e w2 ⟨Ar, cr, Dr, dr, rfl, hr2, hb2⟩; have hx2 := below_box hb2 (.cells #[.slice Ar S1.length cr, .slice Dr L.length dr] 25); have HB2 := Aside0.mk (below_then HB1.out HB1.out.size hx2); have Hr2 := Aside0.mk (RelBx.new hr2); have qr0_2 := blk2_c0 Hr2.out.blk; have qr1_2 := blk2_c1 Hr2.out.blk; clear hb2 hr2 hx2)
    | (go_at_call 12; refine (shown_any _).mono ?_; rintro e w1 ⟨rfl, hb1⟩; have HB1 := Aside0.mk hb1; clear hb1))
  clear qr0_9 qr1_9 qa0_9 qa1_9 qb0_9 qb1_9 qc0_9 qc1_9
  obtain ⟨I, hI⟩ : ∃ I : World → Prop, ∀ W, I W ↔ (Below w.heap.size w W ∧ RelBx W w2.heap.size Ar cr S1 Dr dr L ∧ RelBx W w5.heap.size Aa ca S2 Da da L2 ∧ RelBx W w7.heap.size Ab cb S2 Db db L2 ∧ RelBx W w9.heap.size Ac cc S1 Dc dc L1) := ⟨_, fun _ => Iff.rfl⟩
  have hIst : ∀ {W W1 : World}, I W → Below W.heap.size W W1 → I W1 := fun h hb => by
    obtain ⟨h0, h1, h2, h3, h4⟩ := (hI _).1 h
    exact (hI _).2 ⟨below_then h0 h0.size hb, h1.step hb, h2.step hb, h3.step hb, h4.step hb⟩
  have hIal : ∀ {W : World}, I W → (W.cell? ⟨w2.heap.size, 0, none⟩ = some (.slice Ar S1.length cr) ∧ W.cell? ⟨w2.heap.size, 1, none⟩ = some (.slice Dr L.length dr) ∧ W.cell? ⟨w5.heap.size, 0, none⟩ = some (.slice Aa S2.length ca) ∧ W.cell? ⟨w5.heap.size, 1, none⟩ = some (.slice Da L2.length da) ∧ W.cell? ⟨w7.heap.size, 0, none⟩ = some (.slice Ab S2.length cb) ∧ W.cell? ⟨w7.heap.size, 1, none⟩ = some (.slice Db L2.length db) ∧ W.cell? ⟨w9.heap.size, 0, none⟩ = some (.slice Ac S1.length cc) ∧ W.cell? ⟨w9.heap.size, 1, none⟩ = some (.slice Dc L1.length dc) ∧ I W) := fun h => by
    obtain ⟨h0, h1, h2, h3, h4⟩ := (hI _).1 h
    exact ⟨blk2_c0 h1.blk, blk2_c1 h1.blk, blk2_c0 h2.blk, blk2_c1 h2.blk, blk2_c0 h3.blk, blk2_c1 h3.blk, blk2_c0 h4.blk, blk2_c1 h4.blk, h⟩
  have hIof : ∀ {W : World}, (W.cell? ⟨w2.heap.size, 0, none⟩ = some (.slice Ar S1.length cr) ∧ W.cell? ⟨w2.heap.size, 1, none⟩ = some (.slice Dr L.length dr) ∧ W.cell? ⟨w5.heap.size, 0, none⟩ = some (.slice Aa S2.length ca) ∧ W.cell? ⟨w5.heap.size, 1, none⟩ = some (.slice Da L2.length da) ∧ W.cell? ⟨w7.heap.size, 0, none⟩ = some (.slice Ab S2.length cb) ∧ W.cell? ⟨w7.heap.size, 1, none⟩ = some (.slice Db L2.length db) ∧ W.cell? ⟨w9.heap.size, 0, none⟩ = some (.slice Ac S1.length cc) ∧ W.cell? ⟨w9.heap.size, 1, none⟩ = some (.slice Dc L1.length dc) ∧ I W) → I W := fun h => h.2.2.2.2.2.2.2.2
  have hstep : ∀ {W W1 : World}, (W.cell? ⟨w2.heap.size, 0, none⟩ = some (.slice Ar S1.length cr) ∧ W.cell? ⟨w2.heap.size, 1, none⟩ = some (.slice Dr L.length dr) ∧ W.cell? ⟨w5.heap.size, 0, none⟩ = some (.slice Aa S2.length ca) ∧ W.cell? ⟨w5.heap.size, 1, none⟩ = some (.slice Da L2.length da) ∧ W.cell? ⟨w7.heap.size, 0, none⟩ = some (.slice Ab S2.length cb) ∧ W.cell? ⟨w7.heap.size, 1, none⟩ = some (.slice Db L2.length db) ∧ W.cell? ⟨w9.heap.size, 0, none⟩ = some (.slice Ac S1.length cc) ∧ W.cell? ⟨w9.heap.size, 1, none⟩ = some (.slice Dc L1.length dc) ∧ I W) → Below W.heap.size W W1 → (W1.cell? ⟨w2.heap.size, 0, none⟩ = some (.slice Ar S1.length cr) ∧ W1.cell? ⟨w2.heap.size, 1, none⟩ = some (.slice Dr L.length dr) ∧ W1.cell? ⟨w5.heap.size, 0, none⟩ = some (.slice Aa S2.length ca) ∧ W1.cell? ⟨w5.heap.size, 1, none⟩ = some (.slice Da L2.length da) ∧ W1.cell? ⟨w7.heap.size, 0, none⟩ = some (.slice Ab S2.length cb) ∧ W1.cell? ⟨w7.heap.size, 1, none⟩ = some (.slice Db L2.length db) ∧ W1.cell? ⟨w9.heap.size, 0, none⟩ = some (.slice Ac S1.length cc) ∧ W1.cell? ⟨w9.heap.size, 1, none⟩ = some (.slice Dc L1.length dc) ∧ I W1) := fun h hb => hIal (hIst (hIof h) hb)
  have gB : ∀ {W : World}, (W.cell? ⟨w2.heap.size, 0, none⟩ = some (.slice Ar S1.length cr) ∧ W.cell? ⟨w2.heap.size, 1, none⟩ = some (.slice Dr L.length dr) ∧ W.cell? ⟨w5.heap.size, 0, none⟩ = some (.slice Aa S2.length ca) ∧ W.cell? ⟨w5.heap.size, 1, none⟩ = some (.slice Da L2.length da) ∧ W.cell? ⟨w7.heap.size, 0, none⟩ = some (.slice Ab S2.length cb) ∧ W.cell? ⟨w7.heap.size, 1, none⟩ = some (.slice Db L2.length db) ∧ W.cell? ⟨w9.heap.size, 0, none⟩ = some (.slice Ac S1.length cc) ∧ W.cell? ⟨w9.heap.size, 1, none⟩ = some (.slice Dc L1.length dc) ∧ I W) → Below w.heap.size w W := fun h => ((hI _).1 (hIof h)).1
  have gr : ∀ {W : World}, (W.cell? ⟨w2.heap.size, 0, none⟩ = some (.slice Ar S1.length cr) ∧ W.cell? ⟨w2.heap.size, 1, none⟩ = some (.slice Dr L.length dr) ∧ W.cell? ⟨w5.heap.size, 0, none⟩ = some (.slice Aa S2.length ca) ∧ W.cell? ⟨w5.heap.size, 1, none⟩ = some (.slice Da L2.length da) ∧ W.cell? ⟨w7.heap.size, 0, none⟩ = some (.slice Ab S2.length cb) ∧ W.cell? ⟨w7.heap.size, 1, none⟩ = some (.slice Db L2.length db) ∧ W.cell? ⟨w9.heap.size, 0, none⟩ = some (.slice Ac S1.length cc) ∧ W.cell? ⟨w9.heap.size, 1, none⟩ = some (.slice Dc L1.length dc) ∧ I W) → RelBx W w2.heap.size Ar cr S1 Dr dr L := fun h => ((hI _).1 (hIof h)).2.1
  have ga : ∀ {W : World}, (W.cell? ⟨w2.heap.size, 0, none⟩ = some (.slice Ar S1.length cr) ∧ W.cell? ⟨w2.heap.size, 1, none⟩ = some (.slice Dr L.length dr) ∧ W.cell? ⟨w5.heap.size, 0, none⟩ = some (.slice Aa S2.length ca) ∧ W.cell? ⟨w5.heap.size, 1, none⟩ = some (.slice Da L2.length da) ∧ W.cell? ⟨w7.heap.size, 0, none⟩ = some (.slice Ab S2.length cb) ∧ W.cell? ⟨w7.heap.size, 1, none⟩ = some (.slice Db L2.length db) ∧ W.cell? ⟨w9.heap.size, 0, none⟩ = some (.slice Ac S1.length cc) ∧ W.cell? ⟨w9.heap.size, 1, none⟩ = some (.slice Dc L1.length dc) ∧ I W) → RelBx W w5.heap.size Aa ca S2 Da da L2 := fun h => ((hI _).1 (hIof h)).2.2.1
  have gb : ∀ {W : World}, (W.cell? ⟨w2.heap.size, 0, none⟩ = some (.slice Ar S1.length cr) ∧ W.cell? ⟨w2.heap.size, 1, none⟩ = some (.slice Dr L.length dr) ∧ W.cell? ⟨w5.heap.size, 0, none⟩ = some (.slice Aa S2.length ca) ∧ W.cell? ⟨w5.heap.size, 1, none⟩ = some (.slice Da L2.length da) ∧ W.cell? ⟨w7.heap.size, 0, none⟩ = some (.slice Ab S2.length cb) ∧ W.cell? ⟨w7.heap.size, 1, none⟩ = some (.slice Db L2.length db) ∧ W.cell? ⟨w9.heap.size, 0, none⟩ = some (.slice Ac S1.length cc) ∧ W.cell? ⟨w9.heap.size, 1, none⟩ = some (.slice Dc L1.length dc) ∧ I W) → RelBx W w7.heap.size Ab cb S2 Db db L2 := fun h => ((hI _).1 (hIof h)).2.2.2.1
  have gc : ∀ {W : World}, (W.cell? ⟨w2.heap.size, 0, none⟩ = some (.slice Ar S1.length cr) ∧ W.cell? ⟨w2.heap.size, 1, none⟩ = some (.slice Dr L.length dr) ∧ W.cell? ⟨w5.heap.size, 0, none⟩ = some (.slice Aa S2.length ca) ∧ W.cell? ⟨w5.heap.size, 1, none⟩ = some (.slice Da L2.length da) ∧ W.cell? ⟨w7.heap.size, 0, none⟩ = some (.slice Ab S2.length cb) ∧ W.cell? ⟨w7.heap.size, 1, none⟩ = some (.slice Db L2.length db) ∧ W.cell? ⟨w9.heap.size, 0, none⟩ = some (.slice Ac S1.length cc) ∧ W.cell? ⟨w9.heap.size, 1, none⟩ = some (.slice Dc L1.length dc) ∧ I W) → RelBx W w9.heap.size Ac cc S1 Dc dc L1 := fun h => ((hI _).1 (hIof h)).2.2.2.2
  replace hI := Aside0.mk @hI
  replace hIst := Aside0.mk @hIst
  replace hIal := Aside0.mk @hIal
  replace hIof := Aside0.mk @hIof
  replace hstep := Aside0.mk @hstep
  replace gB := Aside0.mk @gB
  replace gr := Aside0.mk @gr
  replace ga := Aside0.mk @ga
  replace gb := Aside0.mk @gb
  replace gc := Aside0.mk @gc
  have HS0A := Aside0.mk (hIal.out ((hI.out _).2 ⟨HB9.out, Hr9.out, Ha9.out, Hb9.out, Hc9.out⟩))
  have HSDA := Aside0.mk (hstep.out HS0A.out (below_drew (Below.refl _ _)))
  go_region_held3 (fun W => W.cell? ⟨w2.heap.size, 0, none⟩ = some (.slice Ar S1.length cr) ∧ W.cell? ⟨w2.heap.size, 1, none⟩ = some (.slice Dr L.length dr) ∧ W.cell? ⟨w5.heap.size, 0, none⟩ = some (.slice Aa S2.length ca) ∧ W.cell? ⟨w5.heap.size, 1, none⟩ = some (.slice Da L2.length da) ∧ W.cell? ⟨w7.heap.size, 0, none⟩ = some (.slice Ab S2.length cb) ∧ W.cell? ⟨w7.heap.size, 1, none⟩ = some (.slice Db L2.length db) ∧ W.cell? ⟨w9.heap.size, 0, none⟩ = some (.slice Ac S1.length cc) ∧ W.cell? ⟨w9.heap.size, 1, none⟩ = some (.slice Dc L1.length dc) ∧ I W)
    (first | with_reducible exact HS4A.out | with_reducible exact HS3A.out | with_reducible exact HS2A.out | with_reducible exact HS1A.out | with_reducible exact HSDA.out | with_reducible exact HS0A.out | with_reducible exact hstep.out (by assumption) (below_alloc (Below.refl _ _) _) | with_reducible exact hstep.out (by assumption) (below_drew (Below.refl _ _)))
    (first
      | (have hgd := HS3A; clear hgd; go_at_call 16; refine (refright_is (ga.out (by assumption)).rd HRT.out).mono ?_; rintro e v4 ⟨rfl, hb4⟩; have hS4 := hstep.out (by assumption) hb4; have HS4A := Aside0.mk hS4; clear hS4 hb4)
      | (have hgd := HS2A; clear hgd; go_at_call 20; refine (same_is (gc.out (by assumption)).rd hz1 Hu.out true (by simp)).mono ?_; rintro e v3 ⟨rfl, hb3⟩; have hS3 := hstep.out (by assumption) hb3; have HS3A := Aside0.mk hS3; clear hS3 hb3)
      | (have hgd := HS1A; clear hgd; go_at_call 26; refine (select_is (gr.out (by assumption)).rd hz HE.out.1).mono ?_; rintro e v2 ⟨Au, cu, Du, du, rfl, hr2, hb2⟩; have Hu := Aside0.mk hr2; have hS2 := hstep.out (by assumption) hb2; have HS2A := Aside0.mk hS2; clear hS2 hb2 hr2)
      | (go_at_call 20; refine (same_is (ga.out (by assumption)).rd hz2 (gb.out (by assumption)).rd true (by simp)).mono ?_; rintro e v1 ⟨rfl, hb1⟩; have hS1 := hstep.out (by assumption) hb1; have HS1A := Aside0.mk hS1; clear hS1 hb1))
  all_goals
    go_wp2
    go_ret
    exact ⟨rfl, gB.out HS4A.out⟩
end Go.Proofs.Ytlinhcgggfdlpaa.G

namespace Go.Proofs.Ytlinhcgggfdlpaa.relPasses
open Go.ChangeShapes Go.WideShapes Go.ChangeAt Go.RowKit Go.Proofs.YtlinhcgggfdlpaaW.PrintWords Go.Proofs.YtlinhcgggfdlpaaW.PrintLast Go.Proofs.YtlinhcgggfdlpaaW.PrintMore
set_option linter.unusedVariables false
theorem own : ownKnob Try.prog.godebug = none := by kernel_rfl
theorem laidOut : laidOutB Try.prog = true := by kernel_rfl
set_option maxRecDepth 100000 in
theorem lifted (os : Os) (started : os.Started) (H : Type) (enc : TypeId × Value → H) :
    ReturnsInHanded {} Try.checked os 9 .any (Rows.relPassesSpec.pre6 enc Try.prog Try.f9 Rows.relPassesRow.domain false) (Rows.relPassesSpec.post enc Try.prog Try.f9 false true false false) := by
  refine returnsInHanded_of_change (C := Try.checked) own started (by kernel_rfl) Try.func9
    (ChangeSpec.witness6 (enc := enc) (C := Try.checked) false ⟨#[], #[.slice none 0 0, .slice none 0 0, .int .i64 0, .int .i64 0, .slice none 0 0], []⟩ 8 (by kernel_rfl) (by kernel_rfl) (by kernel_rfl) (by kernel_rfl)) ?_
  intro W base args ds gs before hval0 hW hcnd _
  have hval : ∀ (j : Nat) t v, Try.f9.params[j]? = some t → args[j]? = some v → Value.okWide Try.prog W .any base t v := hval0
  have hW' := hW
  obtain ⟨p, q, hA0, hV, rfl, hfz, hnd⟩ := hW
  have hA : DataW.TrodAll enc Try.prog W 0 (fun _ => true) true Try.f9.params.toList args.toList ds p := hA0
  rw [Try.params9] at hA hval
  obtain ⟨v0, vs0, d0, ds0, p0, q0, hargs, rfl, rfl, h0, r0⟩ := trodAll_cons hA
  obtain ⟨v1, vs1, d1, ds1, p1, q1, rfl, rfl, rfl, h1, r1⟩ := trodAll_cons r0
  obtain ⟨v2, vs2, d2, ds2, p2, q2, rfl, rfl, rfl, h2, r2⟩ := trodAll_cons r1
  obtain ⟨v3, vs3, d3, ds3, p3, q3, rfl, rfl, rfl, h3, r3⟩ := trodAll_cons r2
  obtain ⟨v4, vs4, d4, ds4, p4, q4, rfl, rfl, rfl, h4, r4⟩ := trodAll_cons r3
  obtain ⟨rfl, rfl, rfl⟩ := trodAll_nil r4
  obtain rfl : args = #[v0, v1, v2, v3, v4] := by cases args; simp_all
  obtain ⟨rfl, rfl⟩ := trodVars_none hV
  obtain ⟨a0, len0, cap0, rfl⟩ := okWide_slice Try.underlying22 (hval 0 22 v0 rfl rfl)
  obtain ⟨a1, len1, cap1, rfl⟩ := okWide_slice Try.underlying23 (hval 1 23 v1 rfl rfl)
  obtain ⟨a4, len4, cap4, rfl⟩ := okWide_slice Try.underlying22 (hval 4 22 v4 rfl rfl)
  have k0 := h0
  have lt0 : ∀ x ∈ p0, x.block < W.heap.size := by obtain ⟨m, hm⟩ := k0; exact DataW.trod_lt m _ _ _ hm
  have k1 := h1
  have lt1 : ∀ x ∈ p1, x.block < W.heap.size := by obtain ⟨m, hm⟩ := k1; exact DataW.trod_lt m _ _ _ hm
  have k4 := h4
  have lt4 : ∀ x ∈ p4, x.block < W.heap.size := by obtain ⟨m, hm⟩ := k4; exact DataW.trod_lt m _ _ _ hm
  obtain ⟨z0, e0, l0, c0⟩ : ∃ xs : List Int, xs.length = len0 ∧ len0 ≤ cap0 ∧ Kd.C G.KI W a0 xs.length xs := by obtain ⟨m, hm⟩ := h0; exact G.in_ints hm
  obtain ⟨z1, e1, l1, c1⟩ : ∃ L : List (List Int), L.length = len1 ∧ len1 ≤ cap1 ∧ Kd.C G.KL W a1 L.length L := by obtain ⟨m, hm⟩ := h1; exact G.in_rows hm
  obtain ⟨a2, rfl, rfl, rfl, w2⟩ := open_int Try.underlying3 (hval 2 3 v2 rfl rfl) h2
  obtain ⟨a3, rfl, rfl, rfl, w3⟩ := open_int Try.underlying3 (hval 3 3 v3 rfl rfl) h3
  obtain ⟨z4, e4, l4, c4⟩ : ∃ xs : List Int, xs.length = len4 ∧ len4 ≤ cap4 ∧ Kd.C G.KI W a4 xs.length xs := by obtain ⟨m, hm⟩ := h4; exact G.in_ints hm
  clear hA0 hval0
  subst e0 e1 e4
  refine (G.relpasses_walk a0 cap0 z0 a1 cap1 z1 a2 a3 a4 cap4 z4 W c0 l0 c1 l1 c4 l4).mono fun e W' ⟨he, bel⟩ => ?_
  subst he
  exact ⟨_, rfl, _, _, _, [], _, [], hW', trodAll_mk1 (shut_bool Try.underlying4 _), (trodAll_cons_mk (Below.trod laidOut (by kernel_rfl) (of_decide_eq_true (by kernel_rfl)) k0 bel lt0) (trodAll_cons_mk (Below.trod laidOut (by kernel_rfl) (of_decide_eq_true (by kernel_rfl)) k1 bel lt1) (trodAll_cons_mk (shut_int Try.underlying3 w2) (trodAll_cons_mk (shut_int Try.underlying3 w3) (trodAll_cons_mk (Below.trod laidOut (by kernel_rfl) (of_decide_eq_true (by kernel_rfl)) k4 bel lt4) trodAll_mk0))))), rfl, bel.frame _, fun h => by cases h⟩
theorem over : Rows.relPassesRow.holds Try.pinned (OpenSpec.ofChange Rows.relPassesSpec) :=
  OpenClaim.holds_of_wide 9 Try.f9 rfl rfl rfl rfl rfl rfl rfl ⟨rfl, rfl, rfl, rfl, rfl⟩ rfl rfl rfl rfl rfl (by kernel_rfl) Try.func9 (by kernel_rfl)
    (of_decide_eq_true (by kernel_rfl)) (by unfold Func.isWrapper; first | (rw [if_pos (by decide +kernel)]; kernel_rfl) | (rw [if_neg (by decide +kernel)]; exact ⟨rfl, rfl⟩))
    (fun os started H enc _ => lifted os started H enc)
theorem proved : Rows.RelPassesSaid := over
#print axioms proved
end Go.Proofs.Ytlinhcgggfdlpaa.relPasses
