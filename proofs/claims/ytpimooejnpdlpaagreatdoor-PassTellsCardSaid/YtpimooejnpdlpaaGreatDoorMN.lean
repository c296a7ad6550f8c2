/- Several texts of this claim in one. -/
import Derived.Test.YtpimooejnpdlpaaGreatDoorShape
import Derived.Test.YtpimooejnpdlpaaGreatDoorPAll
import Derived.Test.YtpimooejnpdlpaaGreatDoorBox
import Derived.Test.YtpimooejnpdlpaaGreatDoorMR
import Derived.Test.YtpimooejnpdlpaaGreatDoorRefF
import Derived.Deep.SlicePairs
import Derived.Deep.Strs
import Derived.Test.YtpimooejnpdlpaaGreatDoorML
/- What layer 16's laws have of shape, of same and Find: contracts, and plain laws. -/
set_option linter.unusedVariables false
set_option linter.unusedSimpArgs false
namespace Go.Proofs.YtpimooejnpdlpaaGreatDoor.G
open Go.RowKit Go.Proofs.YtpimooejnpdlpaaGreatDoorW.PrintWords Go.Proofs.YtpimooejnpdlpaaGreatDoorW.PrintLast Go.Proofs.YtpimooejnpdlpaaGreatDoorW.PrintMore Go.Proofs.YtpimooejnpdlpaaGreatDoor.PRefs

/-- Made relations are small. -/
def SmL (l : List S39) : Prop := l.length ≤ 6 ∧ ∀ k, k < l.length → Sm (sch l k) (fam l k)
theorem SmL.fit {l : List S39} (h : SmL l) : FitL l := ⟨by have := h.1; omega, fun k hk => (h.2 k hk).rt, fun k hk => by have := (h.2 k hk).s; omega⟩
theorem smL_sh (l : List S41) : SmL (shRels l) := by
  refine ⟨shRels_len l, fun k hk => ?_⟩
  have hm := relAt_mem hk
  obtain ⟨p, _, e⟩ := List.mem_map.1 (show relAt (shRels l) k ∈ (l.take 6).map _ from hm)
  unfold sch fam
  rw [← e]; exact sm_sh p
theorem SmL.sub {l m : List S39} (h : SmL l) (hl : m.length = l.length) (hs : sch m = sch l) (hf : ∀ k, (fam m k).Sublist (fam l k)) : SmL m :=
  ⟨by rw [hl]; exact h.1, fun k hk => by
    rw [hs]
    have h1 := h.2 k (by rw [← hl]; exact hk)
    exact ⟨rt_sub h1.rt (hf k), h1.s, Nat.le_trans (hf k).length_le h1.l⟩⟩
theorem SmL.red {l : List S39} (h : SmL l) {par : Nat → Option Nat} {dep : Nat → Nat} (hT : TreeOf l.length par dep) (ord : List Nat) : SmL (redL par ord l) := by
  obtain ⟨h1, h2, h3⟩ := redL_is hT ord
  exact h.sub h1 h2 fun k => by rw [h3]; exact redF_sub _ _ _ _ k
theorem SmL.up {l : List S39} (h : SmL l) {par : Nat → Option Nat} {dep : Nat → Nat} (hT : TreeOf l.length par dep) (ord : List Nat) : SmL (upL par ord l) := by
  obtain ⟨h1, h2, h3⟩ := upL_is' hT ord
  exact h.sub h1 h2 fun k => by rw [h3]; exact upF_sub _ _ _ _ k
theorem SmL.down {l : List S39} (h : SmL l) {par : Nat → Option Nat} {dep : Nat → Nat} (hT : TreeOf l.length par dep) (ord : List Nat) : SmL (downL par ord l) := by
  obtain ⟨h1, h2, h3⟩ := downL_is' hT ord
  exact h.sub h1 h2 fun k => by rw [h3]; exact downF_sub _ _ _ _ k
/-! ### the tree -/
theorem sh_lens (l : List S41) : (shPars l).length = (shRels l).length ∧ (shBags l).length = (shRels l).length := by
  unfold shPars shRels shBags
  simp
theorem shPars_rd (l : List S41) (i : Nat) (h : i < (shPars l).length) : ∃ v, rd (shPars l) (i : Int) = shPar i v := by
  rw [rd_get _ _ h]
  have h2 : i < ((l.take 6).mapIdx fun i p => shPar i p.f0).length := h
  show ∃ v, ((l.take 6).mapIdx fun i p => shPar i p.f0)[i]'h2 = shPar i v
  rw [List.getElem_mapIdx]
  exact ⟨_, rfl⟩
theorem parOf_shape {l : List S41} {i p : Nat} (h : parOf (shPars l) i = some p) : i < (shPars l).length ∧ p < i := by
  obtain ⟨h1, h2⟩ := parOf_some h
  refine ⟨h1, ?_⟩
  obtain ⟨v, hv⟩ := shPars_rd l i h1
  rw [hv] at h2
  unfold shPar at h2
  by_cases h0 : 0 < i
  · rw [if_pos h0] at h2
    have := md_pos v (i : Int) (by omega)
    omega
  · rw [if_neg h0] at h2; omega
theorem tree_shape (l : List S41) : TreeOK (shPars l) id 0 where
  tree := by
    refine ⟨fun i p hi h => ?_, fun i hi => if_neg fun h => by omega⟩
    have := (parOf_shape h).2
    exact ⟨by omega, this⟩
  rooted := fun h => by
    have h0 : rd (shPars l) ((0 : Nat) : Int) = -1 := by
      obtain ⟨v, hv⟩ := shPars_rd l 0 h
      rw [hv]; rfl
    refine ⟨h, ?_, h0⟩
    rw [rd_get _ 0 h] at h0
    have hm : (-1 : Int) ∈ shPars l := by rw [← h0]; exact List.getElem_mem h
    obtain ⟨h1, h2⟩ := idx_in hm
    rw [h1]
    have : (shPars l).idxOf (-1) = 0 := by
      cases hl : shPars l with
      | nil => rw [hl] at h; simp at h
      | cons a m =>
        have ha : a = -1 := by
          have : (shPars l)[0]'h = a := by simp [hl]
          rw [← this]; exact h0
        rw [ha, List.idxOf_cons_self]
    rw [this]
  one := fun i hi h => by
    by_cases h0 : 0 < i
    · exfalso
      obtain ⟨v, hv⟩ := shPars_rd l i hi
      have h1 : 0 ≤ rd (shPars l) (i : Int) := by
        rw [hv, shPar, if_pos h0]
        exact (md_pos v (i : Int) (by omega)).1
      rw [parOf_of hi h1] at h
      cases h
    · omega
theorem desc_shape (l : List S41) : ∀ d j, j = d → j < (shPars l).length → Desc (parOf (shPars l)) 0 j := by
  intro d
  induction d using Nat.strongRecOn with
  | _ d ih =>
    intro j hd hj
    by_cases h0 : 0 < j
    · obtain ⟨v, hv⟩ := shPars_rd l j hj
      have h1 : 0 ≤ rd (shPars l) (j : Int) := by
        rw [hv, shPar, if_pos h0]
        exact (md_pos v (j : Int) (by omega)).1
      have h2 := parOf_of hj h1
      have h3 := (parOf_shape h2).2
      exact .step h2 (ih _ (by omega) _ rfl (by omega))
    · have : j = 0 := by omega
      subst this; exact .refl

/-! ### same -/
section
variable {w : World} {A B : Option Addr} {c d : Nat}
set_option maxHeartbeats 4000000 in
set_option maxRecDepth 100000 in
theorem same16_is {l : List S39} (hl : SmL l) (h : Kd.C k39 w A l.length l) (hc : l.length ≤ c) (h' : Kd.C k39 w B l.length l) (hd : l.length ≤ d) :
    Calls Tryz.prog 9 #[.slice A l.length c, .slice B l.length d] w fun e w' => e = .returned (.bool true) ∧ Below w.heap.size w w' := by
  have HR := Aside0.mk (And.intro h (And.intro h' hl))
  have h6 := hl.1
  have hne : ((l.length : Int) != (l.length : Int)) = false := by simp
  clear h h' hl hc hd
  go_enter Tryz.func9, Tryz.ntmps9
  go_wp2
  go_loopw [5] (fun i W => ∃ k : Nat, k ≤ l.length ∧ i = .int .i64 k ∧ Aside0 (Below w.heap.size w W)) (fun i _ => l.length - (intOf i).toNat)
  case atStart => exact ⟨0, Nat.zero_le _, rfl, ⟨Below.refl _ _⟩⟩
  case round =>
    obtain ⟨k, hk, rfl, HB⟩ := hrel
    by_cases hlt : k < l.length
    · have hkl : (k : Int) < (l.length : Int) := by omega
      obtain ⟨ad, Ax, cx, Dx, dx, rfl, x0, x1, l0, r0, l1, r1⟩ := at_T39 (Kd.C_below HR.out.1 HB.out) (k : Int) (by omega) (by omega)
      obtain ⟨ad2, Ay, cy, Dy, dy, rfl, y0, y1, m0, s0, m1, s1⟩ := at_T39 (Kd.C_below HR.out.2.1 HB.out) (k : Int) (by omega) (by omega)
      simp only [Int.toNat_natCast] at x0 x1 y0 y1
      have e1 := relAt_rd l k hlt
      have hs := HR.out.2.2.2 k hlt
      rw [e1] at x0 x1 y0 y1 l0 r0 l1 r1 m0 s0 m1 s1
      have HX := Aside0.mk (And.intro (RelRd.mk r0 l0 r1 l1) (And.intro (RelRd.mk s0 m0 s1 m1) hs))
      have HSD := Aside0.mk (S4.step (S4.start x0 x1 y0 y1) (below_drew (Below.refl _ _)))
      clear l0 r0 l1 r1 m0 s0 m1 s1 e1 hs
      obtain ⟨x, hx⟩ : ∃ x, relAt l k = x := ⟨_, rfl⟩
      have HX2 := Aside0.mk (show Sm x.f0 x.f1 from hx ▸ HX.out.2.2)
      rw [hx] at x0 x1 y0 y1 HX HSD
      clear hx
      go_wp2_with fail
      go_region_held3 (fun W => W.cell? (ad.add (k * 2)) = some (.slice Ax x.f0.length cx) ∧ W.cell? ⟨(ad.add (k * 2)).block, (ad.add (k * 2)).off + 1, none⟩ = some (.slice Dx x.f1.length dx) ∧ W.cell? (ad2.add (k * 2)) = some (.slice Ay x.f0.length cy) ∧ W.cell? ⟨(ad2.add (k * 2)).block, (ad2.add (k * 2)).off + 1, none⟩ = some (.slice Dy x.f1.length dy) ∧ Below wr.heap.size wr W)
        (first | with_reducible exact HS2.out | with_reducible exact HSD.out)
        ((go_at_call 21; refine (refsame_any (HX.out.1.step (below_drew (Below.refl _ _))) (HX.out.2.1.step (below_drew (Below.refl _ _))) (by have := HX2.out.s; omega) (by have := HX2.out.s; omega) (fun z hz => by have := HX2.out.rt.r.2.1 z hz; have := HX2.out.s; omega) (fun z hz => by have := HX2.out.rt.r.2.1 z hz; have := HX2.out.s; omega) true (by simp)).mono ?_; rintro e w2 ⟨rfl, hb2⟩; have HS2 := Aside0.mk (S4.step HSD.out hb2); clear hb2))
      go_wp2
      go_roundw
      case rel => exact ⟨k + 1, by omega, by go_num, ⟨below_then HB.out HB.out.size (S4.of HS2.out)⟩⟩
      case measure => simp [intOf]; omega
    · go_wp2
      go_ret
      exact ⟨rfl, HB.out⟩
end

/-! ### shape's call -/
/-- What a call of shape leaves: a tree, and relations. -/
structure ShRd (w W : World) (Ab : Option Addr) (cb : Nat) (B : List (List Int)) (Ap : Option Addr) (cp : Nat) (P : List Int) (Ao : Option Addr) (co : Nat) (R : List S39) : Prop where
  bel : Below w.heap.size w W
  bags : Kd.N KL 25 W w.heap.size (fun k => w.heap.size + 1 < k ∧ some k ≠ (Value.slice Ap P.length cp).ownBlock ∧ some k ≠ (Value.slice Ao R.length co).ownBlock) (.slice Ab B.length cb) B
  pars : Kd.R KI 3 W w.heap.size (fun k => w.heap.size + 1 < k ∧ some k ≠ (Value.slice Ab B.length cb).ownBlock ∧ some k ≠ (Value.slice Ao R.length co).ownBlock) (.slice Ap P.length cp) P
  rels : Kd.N k39 39 W w.heap.size (fun k => w.heap.size + 1 < k ∧ some k ≠ (Value.slice Ab B.length cb).ownBlock ∧ some k ≠ (Value.slice Ap P.length cp).ownBlock) (.slice Ao R.length co) R
theorem ShRd.step {w W W1 : World} {Ab Ap Ao : Option Addr} {cb cp co : Nat} {B : List (List Int)} {P : List Int} {R : List S39} (h : ShRd w W Ab cb B Ap cp P Ao co R) (hb : Below W.heap.size W W1) : ShRd w W1 Ab cb B Ap cp P Ao co R :=
  ⟨below_then h.bel h.bel.size hb, Kd.N_below h.bags hb, Kd.R_below h.pars hb, Kd.N_below h.rels hb⟩
theorem ShRd.rd {w W : World} {Ab Ap Ao : Option Addr} {cb cp co : Nat} {B : List (List Int)} {P : List Int} {R : List S39} (h : ShRd w W Ab cb B Ap cp P Ao co R) : Kd.C KI W Ap P.length P ∧ Kd.C k39 W Ao R.length R ∧ R.length ≤ co := by
  obtain ⟨A', c', e, _, hC⟩ := Kd.R_reads h.pars
  injection e with e1 e2 e3
  subst e1
  exact ⟨hC, (Kd.N_reads' h.rels).2.2, (Kd.N_reads' h.rels).2.1⟩
theorem shape_is {l : List S41} {w : World} {A : Option Addr} {c : Nat} (hr : Kd.C k41 w A l.length l) {B : List (List Int)} {P : List Int} {R : List S39} (hB : shBags l = B) (hP : shPars l = P) (hR : shRels l = R) :
    Calls Tryz.prog 5 #[.slice A l.length c] w fun e w' => ∃ Ab cb Ap cp Ao co, e = .returned (.tuple #[.agg #[.slice Ab B.length cb, .slice Ap P.length cp], .slice Ao R.length co]) ∧ ShRd w w' Ab cb B Ap cp P Ao co R ∧ Below w.heap.size w w' := by
  subst hB hP hR
  refine (shape_any A c l w hr).mono ?_
  rintro e w' ⟨vB, vP, vO, rfl, W, h, rfl⟩
  obtain ⟨Ab, cb, rfl⟩ := Kd.N_slice h.bags
  obtain ⟨Ap, cp, rfl⟩ := Kd.R_slice h.pars
  obtain ⟨Ao, co, rfl⟩ := Kd.N_slice h.rels
  have hb := (h.bel.setCell (p := ⟨w.heap.size, 0, none⟩) (Nat.le_refl _) (.slice Ab (shBags l).length cb)).setCell (p := ⟨w.heap.size, 1, none⟩) (Nat.le_refl _) (.slice Ap (shPars l).length cp)
  refine ⟨Ab, cb, Ap, cp, Ao, co, rfl, ⟨hb, ?_, ?_, ?_⟩, hb⟩
  · exact Kd.N_far (Kd.N_far h.bags (p := ⟨w.heap.size, 0, none⟩) (fun k hk => by have := hk.1; show k ≠ w.heap.size; omega) _) (p := ⟨w.heap.size, 1, none⟩) (fun k hk => by have := hk.1; show k ≠ w.heap.size; omega) _
  · exact Kd.R_far (Kd.R_far h.pars (p := ⟨w.heap.size, 0, none⟩) (fun k hk => by have := hk.1; show k ≠ w.heap.size; omega) _) (p := ⟨w.heap.size, 1, none⟩) (fun k hk => by have := hk.1; show k ≠ w.heap.size; omega) _
  · exact Kd.N_far (Kd.N_far h.rels (p := ⟨w.heap.size, 0, none⟩) (fun k hk => by have := hk.1; show k ≠ w.heap.size; omega) _) (p := ⟨w.heap.size, 1, none⟩) (fun k hk => by have := hk.1; show k ≠ w.heap.size; omega) _
end Go.Proofs.YtpimooejnpdlpaaGreatDoor.G

/- A slice of parts that comes in (a number, and two slices each). -/
set_option linter.unusedVariables false
set_option linter.unusedSimpArgs false
namespace Go.Proofs.YtpimooejnpdlpaaGreatDoor.G
open Go.RowKit Go.ChangeShapes Go.WideShapes Go.ChangeAt Go.Deep Go.Proofs.YtpimooejnpdlpaaGreatDoorW.PrintWords Go.Proofs.YtpimooejnpdlpaaGreatDoorW.PrintLast Go.Proofs.YtpimooejnpdlpaaGreatDoorW.PrintMore Go.Proofs.YtpimooejnpdlpaaGreatDoor.PRefs

/-- A part's three cells, and what they read. -/
def PartAt (W : World) (ad : Addr) (i : Nat) (q : S41) : Prop :=
  ∃ A c A' c', W.cell? (ad.add (i * 3)) = some (.int .i64 q.f0) ∧ W.cell? (ad.add (i * 3 + 1)) = some (.slice A q.f1.length c) ∧ W.cell? (ad.add (i * 3 + 2)) = some (.slice A' q.f2.length c') ∧ q.f1.length ≤ c ∧ Kd.C KI W A q.f1.length q.f1 ∧ q.f2.length ≤ c' ∧ Kd.C KL W A' q.f2.length q.f2
set_option maxRecDepth 100000 in
theorem in_parts {H : Type} {enc : TypeId × Value → H} {W : World} {base : Nat} {held : Bool} {a : Option Addr} {len cap : Nat} {x : DataW H × List MemPlace} {fuel : Nat}
    (h : DataW.trod enc Tryz.prog W base (fun _ => true) held fuel 22 (Value.slice a len cap).cells.toList = some x) :
    ∃ L : List S41, L.length = len ∧ len ≤ cap ∧ Kd.C k41 W a L.length L := by
  have e : (Value.slice a len cap).cells.toList = [.slice a len cap] := by simp [Value.cells]
  rw [e] at h
  rcases Go.Deep.open_slice Tryz.underlying22 h with ⟨hcs, _⟩ | ⟨ad, l, c, m, n, D, Pl, hcs, _, hl, hm, hmm, _, hx⟩
  · simp at hcs
    obtain ⟨rfl, rfl, rfl⟩ := hcs
    exact ⟨[], rfl, Nat.le_refl _, Kd.C_nil _ _⟩
  · simp at hcs
    obtain ⟨rfl, rfl, rfl⟩ := hcs
    have hmc : len ≤ m := by rw [hmm, if_pos rfl]; exact hl
    have h3 : Tryz.prog.cellsOf 41 = 3 := by kernel_rfl
    have c0 : Tryz.prog.cellsOf 3 = 1 := by kernel_rfl
    have c1 : Tryz.prog.cellsOf 25 = 1 := by kernel_rfl
    have c2 : Tryz.prog.cellsOf 24 = 1 := by kernel_rfl
    have each : ∀ i, i < len → ∃ q : S41, PartAt W ad i q := by
      intro i hi
      obtain ⟨cs', k1, k2⟩ := hx i (by omega)
      rw [h3] at k1
      obtain ⟨_, hlen, hcell⟩ := World.cells?_some k1
      obtain ⟨y0, y1, y2, n', _, _, t0, t1, t2⟩ := trod_struct3 Tryz.underlying41 k2
      match cs', hlen with
      | [v0, v1, v2], _ =>
        simp [c0, c1, c2] at t0 t1 t2
        have g0 := hcell 0 (by omega)
        have g1 := hcell 1 (by omega)
        have g2 := hcell 2 (by omega)
        rw [Go.Deep.add_add] at g0 g1 g2
        simp at g0 g1 g2
        obtain ⟨q, e0, _, _⟩ := DataW.trod_int Tryz.underlying3 t0
        obtain ⟨a1, l1, c1', e1⟩ := slice_of Tryz.underlying25 t1
        obtain ⟨a2, l2, c2', e2⟩ := slice_of Tryz.underlying24 t2
        simp at e0
        rw [e0] at g0
        rw [e1] at g1 t1
        rw [e2] at g2 t2
        obtain ⟨xs, hxs, hcx, hC⟩ := in_ints (a := a1) (len := l1) (cap := c1') t1
        obtain ⟨L, hL, hcL, hD⟩ := in_rows (a := a2) (len := l2) (cap := c2') t2
        subst hxs hL
        exact ⟨⟨q, xs, L⟩, a1, c1', a2, c2', g0, g1, g2, hcx, hC, hcL, hD⟩
    obtain ⟨q, hq⟩ : ∃ q : Nat → S41, ∀ i, i < len → PartAt W ad i (q i) :=
      ⟨fun i => if hi : i < len then Classical.choose (each i hi) else z41, fun i hi => by
        show PartAt W ad i (if hi : i < len then Classical.choose (each i hi) else z41)
        rw [dif_pos hi]; exact Classical.choose_spec (each i hi)⟩
    have hlen : ((List.range len).map q).length = len := by simp
    refine ⟨(List.range len).map q, hlen, hl, hlen.symm ▸ ?_⟩
    refine ⟨hlen, by unfold maxLen at hm; omega, fun h0 => ⟨ad, rfl, fun j p hj => ?_⟩⟩
    have hjl : j < len := by have := (List.getElem?_eq_some_iff.1 hj).1; omega
    have hp : p = q j := by
      rw [List.getElem?_map, List.getElem?_range hjl] at hj
      exact (Option.some.inj hj).symm
    subst hp
    obtain ⟨A, c, A', c', g0, g1, g2, m0, k0, m1, k1⟩ := hq j hjl
    refine ⟨[.int .i64 (q j).f0, .slice A (q j).f1.length c, .slice A' (q j).f2.length c'], rfl, k41_mk W (q j) m0 k0 m1 k1, fun i u hu => ?_⟩
    have hi0 : i < 3 := (List.getElem?_eq_some_iff.1 hu).1
    rw [show (k41).sz = 3 from rfl]
    match i, hi0 with
    | 0, _ =>
      have hu' : u = .int .i64 (q j).f0 := by simpa using hu.symm
      rw [hu', Nat.add_zero]; exact g0
    | 1, _ =>
      have hu' : u = .slice A (q j).f1.length c := by simpa using hu.symm
      rw [hu']; exact g1
    | 2, _ =>
      have hu' : u = .slice A' (q j).f2.length c' := by simpa using hu.symm
      rw [hu']; exact g2
/-- What stays while a law of layer 16 goes on: what shape made, the tree in a box. -/
structure PSt (w w0 W : World) (g : Nat) (Ab : Option Addr) (cb : Nat) (B : List (List Int)) (Ap : Option Addr) (cp : Nat) (P : List Int) (Ao : Option Addr) (co : Nat) (R : List S39) : Prop where
  bel : Below w.heap.size w W
  sh : ShRd w0 W Ab cb B Ap cp P Ao co R
  box : W.heap[g]? = some (.cells #[.slice Ab B.length cb, .slice Ap P.length cp] 27 (0, 0))
theorem PSt.step {w w0 W W1 : World} {g : Nat} {Ab Ap Ao : Option Addr} {cb cp co : Nat} {B : List (List Int)} {P : List Int} {R : List S39} (h : PSt w w0 W g Ab cb B Ap cp P Ao co R) (hb : Below W.heap.size W W1) : PSt w w0 W1 g Ab cb B Ap cp P Ao co R :=
  ⟨below_then h.bel h.bel.size hb, h.sh.step hb, (hb.block _ (Array.getElem?_eq_some_iff.1 h.box).1).trans h.box⟩
theorem PSt.new {w w0 W : World} {Ab Ap Ao : Option Addr} {cb cp co : Nat} {B : List (List Int)} {P : List Int} {R : List S39} (hb : Below w.heap.size w W) (h : ShRd w0 W Ab cb B Ap cp P Ao co R) : PSt w w0 (W.alloc (.cells #[.slice Ab B.length cb, .slice Ap P.length cp] 27)) W.heap.size Ab cb B Ap cp P Ao co R :=
  ⟨below_alloc hb _, h.step (below_alloc (Below.refl _ _) _), heap_alloc_new W _⟩
end Go.Proofs.YtpimooejnpdlpaaGreatDoor.G

/- Layer 16's shown: a small case that must work. -/
set_option linter.unusedVariables false
set_option linter.unusedSimpArgs false
namespace Go.Proofs.YtpimooejnpdlpaaGreatDoor.G
open Go.RowKit Go.Proofs.YtpimooejnpdlpaaGreatDoorW.PrintWords Go.Proofs.YtpimooejnpdlpaaGreatDoorW.PrintLast Go.Proofs.YtpimooejnpdlpaaGreatDoorW.PrintMore Go.Proofs.YtpimooejnpdlpaaGreatDoor.PRefs

def shP : List Int := [-1, 0]
def shL : List S39 := [⟨[0], [[1], [2]]⟩, ⟨[0, 1], [[2, 5], [3, 5]]⟩]
theorem parOf_sh : ∀ i, parOf shP i = if i = 1 then some 0 else none
  | 0 => by decide
  | 1 => by decide
  | i + 2 => by
    rw [if_neg (by omega)]
    exact if_neg fun h => by have h2 : i + 2 < 2 := h.1; omega
theorem tree_sh : TreeOK shP id 0 where
  tree := by
    refine ⟨fun i p hi h => ?_, fun i hi => ?_⟩
    · rw [parOf_sh] at h
      split at h
      · next e => cases h; subst e; exact ⟨by decide, by decide⟩
      · cases h
    · have h2 : 2 ≤ i := hi
      rw [parOf_sh, if_neg (by omega)]
  rooted := fun _ => by decide
  one := fun i hi h => by
    rw [parOf_sh] at h
    have h2 : i < 2 := hi
    by_cases e : i = 1
    · rw [if_pos e] at h; cases h
    · omega
theorem rt_sh : RtL shL := fun k hk => by
  match k, hk with
  | 0, _ => exact ⟨by decide, by decide, by decide, by simp [fam, relAt, shL, InR]⟩
  | 1, _ => exact ⟨by decide, by decide, by decide, by simp [fam, relAt, shL, InR]⟩
theorem fit_sh : FitL shL := ⟨by decide, rt_sh, fun k hk => by
  match k, hk with
  | 0, _ => decide
  | 1, _ => decide⟩
theorem up_sh : (fam (upL (parOf shP) (afterN shP) shL) 0).length = 1 ∧ (fam (upL (parOf shP) (afterN shP) shL) 1).length = 2 := by decide +kernel
theorem red_sh : (fam (redL (parOf shP) (afterN shP) shL) 1).length = 1 := by decide +kernel
theorem set_sh : settledB shP (redL (parOf shP) (afterN shP) shL) = true := decide_eq_true ((settledP_dec _ _).2 (red_is_settled (dep := id) tree_sh.tree (after_is tree_sh).2 rt_sh.right))
theorem not_sh : settledB shP shL = false := decide_eq_false fun h => by
  have h1 := (settled_iff (dep := id) tree_sh.tree rt_sh.right).1 ((settledP_dec _ _).1 h)
  have h2 := (h1 1 0 (by decide)).2 [1] (by decide)
  revert h2
  decide
/-- What is laid in shown. -/
structure Lit16 (w W : World) : Prop where
  bel : Below w.heap.size w W
  tree : W.heap[w.heap.size + 1 + 1 + 1 + 1]? = some (.cells #[.slice (some ⟨w.heap.size + 1 + 1, 0, none⟩) 2 2, .slice (some ⟨w.heap.size + 1 + 1 + 1, 0, none⟩) 2 2] 27 (0, 0))
  par : Kd.C KI W (some ⟨w.heap.size + 1 + 1 + 1, 0, none⟩) 2 shP
  rels : Kd.C k39 W (some ⟨w.heap.size + 1 + 1 + 1 + 1 + 1 + 1 + 1 + 1 + 1 + 1 + 1 + 1 + 1, 0, none⟩) 2 shL
theorem Lit16.step {w W W1 : World} (h : Lit16 w W) (hb : Below W.heap.size W W1) : Lit16 w W1 :=
  ⟨below_then h.bel h.bel.size hb, (hb.block _ (Array.getElem?_eq_some_iff.1 h.tree).1).trans h.tree, Kd.C_below h.par hb, Kd.C_below h.rels hb⟩
def litO (n : Nat) : List Obj := [.cells #[.int .i64 0] 3, .cells #[.int .i64 0, .int .i64 1] 3, .cells #[.slice (some ⟨n, 0, none⟩) 1 1, .slice (some ⟨n + 1, 0, none⟩) 2 2] 25, .cells #[.int .i64 (-1), .int .i64 0] 3,
  .cells #[.slice (some ⟨n + 2, 0, none⟩) 2 2, .slice (some ⟨n + 3, 0, none⟩) 2 2] 27, .cells #[.int .i64 0] 3, .cells #[.int .i64 1] 3, .cells #[.int .i64 2] 3, .cells #[.slice (some ⟨n + 6, 0, none⟩) 1 1, .slice (some ⟨n + 7, 0, none⟩) 1 1] 25,
  .cells #[.int .i64 0, .int .i64 1] 3, .cells #[.int .i64 2, .int .i64 5] 3, .cells #[.int .i64 3, .int .i64 5] 3, .cells #[.slice (some ⟨n + 10, 0, none⟩) 2 2, .slice (some ⟨n + 11, 0, none⟩) 2 2] 25,
  .cells #[.slice (some ⟨n + 5, 0, none⟩) 1 1, .slice (some ⟨n + 8, 0, none⟩) 2 2, .slice (some ⟨n + 9, 0, none⟩) 2 2, .slice (some ⟨n + 12, 0, none⟩) 2 2] 39]
theorem lit16 (w : World) : Lit16 w ((litO w.heap.size).foldl World.alloc w) := by
  have h := lits_get (litO w.heap.size) w
  refine ⟨lits_below w _, h 4 (by simp [litO]), C_ints_blk (xs := shP) (h 3 (by simp [litO])) (by decide), ?_⟩
  exact C_rels2_blk (r := ⟨[0], [[1], [2]]⟩) (q := ⟨[0, 1], [[2, 5], [3, 5]]⟩) (h 13 (by simp [litO]))
    ⟨C_ints_blk (xs := [0]) (h 5 (by simp [litO])) (by decide), by decide, C_rows2_blk (xs := [1]) (ys := [2]) (h 8 (by simp [litO])) (C_ints_blk (xs := [1]) (h 6 (by simp [litO])) (by decide)) (by decide) (C_ints_blk (xs := [2]) (h 7 (by simp [litO])) (by decide)) (by decide), by decide⟩
    ⟨C_ints_blk (xs := [0, 1]) (h 9 (by simp [litO])) (by decide), by decide, C_rows2_blk (xs := [2, 5]) (ys := [3, 5]) (h 12 (by simp [litO])) (C_ints_blk (xs := [2, 5]) (h 10 (by simp [litO])) (by decide)) (by decide) (C_ints_blk (xs := [3, 5]) (h 11 (by simp [litO])) (by decide)) (by decide), by decide⟩

theorem sh_up {w W : World} (h : Lit16 w W) (ht : Tab W) : Calls Tryz.prog 6 #[.agg #[.slice (some ⟨w.heap.size + 1 + 1, 0, none⟩) 2 2, .slice (some ⟨w.heap.size + 1 + 1 + 1, 0, none⟩) 2 2], .slice (some ⟨w.heap.size + 1 + 1 + 1 + 1 + 1 + 1 + 1 + 1 + 1 + 1 + 1 + 1 + 1, 0, none⟩) 2 2] W fun e w' => ∃ g D d E f, e = .returned (.tuple #[.slice (some ⟨g, 0, none⟩) 2 2, .int .i64 0]) ∧ w'.cell? ⟨g, 1, none⟩ = some (.slice D 1 d) ∧ w'.cell? ⟨g, 3, none⟩ = some (.slice E 2 f) ∧ Below W.heap.size W w' := by
  refine (passup_any (dep := id) (root := 0) _ 2 2 _ 2 shP _ 2 shL W h.par h.rels tree_sh rfl rfl fit_sh ht).mono ?_
  rintro e w' ⟨v, rfl, ⟨g, cur, _, rfl, hR⟩, hb⟩
  have hl : (upL (parOf shP) (afterN shP) shL).length = 2 := (upL_is' (dep := id) (l := shL) tree_sh.tree _).1
  obtain ⟨A, c, D, d, _, _, _, q1, _⟩ := hR.at_ (j := 0) (by omega)
  obtain ⟨A', c', E, f, _, _, _, q2, _⟩ := hR.at_ (j := 1) (by omega)
  rw [up_sh.1] at q1
  rw [up_sh.2] at q2
  rw [hl]
  exact ⟨g, D, d, E, f, rfl, q1, q2, hb⟩
theorem sh_red {w W : World} (h : Lit16 w W) (ht : Tab W) : Calls Tryz.prog 8 #[.agg #[.slice (some ⟨w.heap.size + 1 + 1, 0, none⟩) 2 2, .slice (some ⟨w.heap.size + 1 + 1 + 1, 0, none⟩) 2 2], .slice (some ⟨w.heap.size + 1 + 1 + 1 + 1 + 1 + 1 + 1 + 1 + 1 + 1 + 1 + 1 + 1, 0, none⟩) 2 2] W fun e w' => ∃ g E f, e = .returned (.tuple #[.slice (some ⟨g, 0, none⟩) 2 2, .int .i64 0]) ∧ w'.cell? ⟨g, 3, none⟩ = some (.slice E 1 f) ∧ Kd.C k39 w' (some ⟨g, 0, none⟩) 2 (redL (parOf shP) (afterN shP) shL) ∧ Below W.heap.size W w' := by
  refine (reduce_any (dep := id) (root := 0) _ 2 2 _ 2 shP _ 2 shL W h.par h.rels tree_sh rfl rfl fit_sh ht).mono ?_
  rintro e w' ⟨v, rfl, ⟨g, cur, _, rfl, hR⟩, hb⟩
  have hl : (redL (parOf shP) (afterN shP) shL).length = 2 := (redL_is (dep := id) (l := shL) tree_sh.tree _).1
  obtain ⟨A', c', E, f, _, _, _, q2, _⟩ := hR.at_ (j := 1) (by omega)
  have hC := hR.reads (by rw [hl]; decide)
  rw [red_sh] at q2
  rw [hl] at hC ⊢
  exact ⟨g, E, f, rfl, q2, hC, hb⟩
theorem sh_down {w W : World} : Calls Tryz.prog 7 #[.agg #[.slice (some ⟨w.heap.size + 1 + 1, 0, none⟩) 2 2, .slice (some ⟨w.heap.size + 1 + 1 + 1, 0, none⟩) 2 2], .slice none 0 0] W fun e w' => e = .returned (.tuple #[.slice none 0 0, .int .i64 1]) ∧ Below W.heap.size W w' := passdown_err _ 2 2 _ 2 2 none 0 0 W (by decide)
theorem sh_set1 {w W : World} {g : Nat} (h : Lit16 w W) (hC : Kd.C k39 W (some ⟨g, 0, none⟩) 2 (redL (parOf shP) (afterN shP) shL)) : Calls Tryz.prog 10 #[.agg #[.slice (some ⟨w.heap.size + 1 + 1, 0, none⟩) 2 2, .slice (some ⟨w.heap.size + 1 + 1 + 1, 0, none⟩) 2 2], .slice (some ⟨g, 0, none⟩) 2 2] W fun e w' => e = .returned (.bool true) ∧ Below W.heap.size W w' := by
  have hl : (redL (parOf shP) (afterN shP) shL).length = 2 := (redL_is (dep := id) (l := shL) tree_sh.tree _).1
  have := settled_any (dep := id) (root := 0) (some ⟨w.heap.size + 1 + 1, 0, none⟩) 2 2 _ 2 shP (some ⟨g, 0, none⟩) 2 (redL (parOf shP) (afterN shP) shL) W h.par (by rw [hl]; exact hC) tree_sh hl hl ((fit_sh.up (dep := id) tree_sh.tree _).down (dep := id) (by rw [(upL_is' (dep := id) (l := shL) tree_sh.tree _).1]; exact tree_sh.tree) _) true set_sh
  rwa [hl] at this
theorem sh_set0 {w W : World} (h : Lit16 w W) : Calls Tryz.prog 10 #[.agg #[.slice (some ⟨w.heap.size + 1 + 1, 0, none⟩) 2 2, .slice (some ⟨w.heap.size + 1 + 1 + 1, 0, none⟩) 2 2], .slice (some ⟨w.heap.size + 1 + 1 + 1 + 1 + 1 + 1 + 1 + 1 + 1 + 1 + 1 + 1 + 1, 0, none⟩) 2 2] W fun e w' => e = .returned (.bool false) ∧ Below W.heap.size W w' :=
  settled_any (dep := id) (root := 0) _ 2 2 _ 2 shP _ 2 shL W h.par h.rels tree_sh rfl rfl fit_sh false not_sh
set_option maxHeartbeats 4000000 in
set_option maxRecDepth 100000 in
theorem shown16_any (w : World) (htab : Tab w) : Calls Tryz.prog 4 #[] w fun e w' => e = .returned (.bool true) ∧ Below w.heap.size w w' := by
  have HT := Aside0.mk htab
  clear htab
  have HL := Aside0.mk (lit16 w)
  go_enter Tryz.func4, Tryz.ntmps4
  go_upto_region 3 with fail
  change Code.wp _ _ _ _ ((litO w.heap.size).foldl World.alloc w)
  generalize (litO w.heap.size).foldl World.alloc w = WL at HL ⊢
  have q0 := blk2_c0 HL.out.tree
  have q1 := blk2_c1 HL.out.tree
  go_wp2_with (first
    | (have hgd := HL5; clear hgd; go_at_call 10; refine (sh_set0 HL5.out).mono ?_; rintro e w6 ⟨rfl, hb6⟩; have HL6 := Aside0.mk (HL5.out.step hb6); clear hb6)
    | (have hgd := HL4; clear hgd; go_at_call 10; refine (sh_set1 HL4.out HC4.out).mono ?_; rintro e w5 ⟨rfl, hb5⟩; have HL5 := Aside0.mk (HL4.out.step hb5); have q11 := blk2_c0 HL5.out.tree; have q12 := blk2_c1 HL5.out.tree; clear hb5)
    | (have hgd := HL3; clear hgd; go_at_call 7; refine (sh_down (w := w)).mono ?_; rintro e w4 ⟨rfl, hb4⟩; have HL4 := Aside0.mk (HL3.out.step hb4); have HC4 := Aside0.mk (Kd.C_below HC3.out hb4); have q6 := (hb4.cell (World.block_lt_of_cell? w3 _ q2)).trans q2; have q7 := (hb4.cell (World.block_lt_of_cell? w3 _ q3)).trans q3; have q8 := (hb4.cell (World.block_lt_of_cell? w3 _ q5)).trans q5; have q9 := blk2_c0 HL4.out.tree; have q10 := blk2_c1 HL4.out.tree; clear hb4 q0 q1 q2 q3 q5)
    | (have hgd := HL2; clear hgd; go_at_call 8; refine (sh_red HL2.out (HT.out.step HL2.out.bel)).mono ?_; rintro e w3 ⟨g2, E2, f2, rfl, q5, hC3, hb3⟩; have HL3 := Aside0.mk (HL2.out.step hb3); have HC3 := Aside0.mk hC3; replace q2 := (hb3.cell (World.block_lt_of_cell? w2 _ q2)).trans q2; replace q3 := (hb3.cell (World.block_lt_of_cell? w2 _ q3)).trans q3; clear q0 q1; have q0 := blk2_c0 HL3.out.tree; have q1 := blk2_c1 HL3.out.tree; clear hC3 hb3)
    | (go_at_call 6; refine (sh_up HL.out (HT.out.step HL.out.bel)).mono ?_; rintro e w2 ⟨g1, D, d, E, f, rfl, q2, q3, hb2⟩; have HL2 := Aside0.mk (HL.out.step hb2); clear q0 q1; have q0 := blk2_c0 HL2.out.tree; have q1 := blk2_c1 HL2.out.tree; clear hb2))
  go_ret
  exact ⟨rfl, HL6.out.bel⟩
end Go.Proofs.YtpimooejnpdlpaaGreatDoor.G
