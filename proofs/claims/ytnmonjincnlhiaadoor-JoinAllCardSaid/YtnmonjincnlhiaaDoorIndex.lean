/- join.index: the rows of a relation, by what they have of some variables. -/
import Derived.Test.YtnmonjincnlhiaaDoorKey
import Derived.Test.YtnmonjincnlhiaaDoorGroups
import Derived.Test.YtnmonjincnlhiaaDoorME
import Derived.Test.YtnmonjincnlhiaaDoorConcatI
set_option linter.unusedVariables false
set_option linter.unusedSimpArgs false
namespace Go.Proofs.YtnmonjincnlhiaaDoor.G
open Go.RowKit Go.Proofs.YtnmonjincnlhiaaDoorW.PrintWords Go.Proofs.YtnmonjincnlhiaaDoorW.PrintLast Go.Proofs.YtnmonjincnlhiaaDoorW.PrintMore

theorem Groups.step {P : Program} {k : TypeId} {W W1 : World} {b base m : Nat} {ok : Nat → Prop} {G : List UInt8 → List (List Int)} (h : Groups P k W b base m ok G) (hb : Below W.heap.size W W1) : Groups P k W1 b base m ok G :=
  h.below hb ⟨hb.os, hb.tape, hb.output, hb.size, fun k hk _ => hb.block k hk⟩
theorem Groups.base_le {P : Program} {k : TypeId} {W : World} {b base m : Nat} {ok : Nat → Prop} {G : List UInt8 → List (List Int)} (h : Groups P k W b base m ok G) : base ≤ W.heap.size := by
  obtain ⟨f, fam, h1, h2, h3, _⟩ := h
  exact h3.1
/-- A row out of a row of rows, and where it lies. -/
theorem at_rowF {w w1 : World} {ok : Nat → Prop} {A : Option Addr} {L : List (List Int)} (h : Kd.F KL w ok A L.length L) (hb : Below w.heap.size w w1) (k : Nat) (hk : k < L.length) :
    ∃ ad B c, A = some ad ∧ w1.cell? (ad.add k) = some (.slice B (L.getD k []).length c) ∧ (L.getD k []).length ≤ c ∧ Kd.C KI w1 B (L.getD k []).length (L.getD k []) ∧ Kd.FK KL w1 ok (L.getD k []) [.slice B (L.getD k []).length c] := by
  obtain ⟨ad, cs, e, _, hK, hc, _⟩ := Kd.F_get (Kd.F_below h hb) ([] : List Int) (k : Int) (by omega) (by omega)
  rw [Int.toNat_natCast] at hK hc
  obtain ⟨B, c, hcs, hl, hr⟩ := Kd.FK_now hK
  subst hcs
  have h0 := hc 0 _ rfl
  rw [show KL.sz = 1 from rfl, Nat.mul_one, Nat.add_zero] at h0
  exact ⟨ad, B, c, e, h0, hl, hr, hK⟩
theorem key_is {A0 : Option Addr} {c0 : Nat} {t : List Int} {w : World} (hr0 : Kd.C KI w A0 t.length t) (hL : t.length ≤ 1000000000) (hin : InR1 t) (htab : Tab w) :
    Calls Tryd.prog 33 #[.slice A0 t.length c0] w fun e w' => ∃ s : ByteArray, e = .returned (.string s) ∧ (s.data.toList = keyText t ∧ s.size ≤ Go.maxLen) ∧ Below w.heap.size w w' := by
  refine (key_any A0 c0 t w hr0 hL hin htab).mono ?_
  rintro e w' ⟨rfl, hb⟩
  refine ⟨_, rfl, ⟨by simp, ?_⟩, hb⟩
  have := keyText_len t hin
  show (keyText t).toArray.size ≤ _
  unfold Go.maxLen
  rw [List.size_toArray]
  omega
theorem zeroRows (W : World) : (zeroValue 23).run Tryd.prog W = .ok nilV W := by kernel_rfl

set_option maxHeartbeats 4000000 in
set_option maxRecDepth 100000 in
theorem index_any (A0 : Option Addr) (c0 : Nat) (sc : List Int) (A1 : Option Addr) (c1 : Nat) (rows : List (List Int)) (A2 : Option Addr) (c2 : Nat) (vars : List Int) (w : World) (hr0 : Kd.C KI w A0 sc.length sc) (ok : Nat → Prop) (hr1 : Kd.F KL w ok A1 rows.length rows) (hok : ∀ q, ok q → q < w.heap.size) (hr2 : Kd.C KI w A2 vars.length vars)
    (hm1 : rows.length ≤ 1000000000) (hm2 : vars.length ≤ 1000000000) (hin : InR rows) (htab : Tab w) :
    Calls Tryd.prog 31 #[.agg #[.slice A0 sc.length c0, .slice A1 rows.length c1], .slice A2 vars.length c2] w fun e w' => ∃ b base, e = .returned (.map (some b)) ∧ (Groups Tryd.prog 9 w' b base rows.length ok (groupOf sc rows vars) ∧ w.heap.size ≤ b) ∧ Below w.heap.size w w' := by
  have HR := Aside0.mk (And.intro hr0 (And.intro hr1 hr2))
  have HIN := Aside0.mk hin
  have HT := Aside0.mk htab
  obtain ⟨W0, hW0⟩ : ∃ W0, w.alloc (.cells #[.slice A0 sc.length c0, .slice A1 rows.length c1] 27) = W0 := ⟨_, rfl⟩
  have hb0 : Below w.heap.size w W0 := by rw [← hW0]; exact below_alloc (Below.refl _ _) _
  have hblk : W0.heap[w.heap.size]? = some (.cells #[.slice A0 sc.length c0, .slice A1 rows.length c1] 27 (0, 0)) := by rw [← hW0]; exact heap_alloc_new w _
  have HB0 := Aside0.mk (And.intro hb0 hblk)
  have q0 := blk2_c0 hblk
  clear hr0 hr1 hr2 hin htab hb0 hblk
  have hmm := @run_makeMap Tryd.prog
  go_enter Tryd.func31, Tryd.ntmps31
  go_wp2_with (first | (go_at_call 30; refine (places_any A0 c0 sc A2 c2 vars W0 (Kd.C_below HR.out.1 HB0.out.1) (Kd.C_below HR.out.2.2 HB0.out.1) hm2).mono ?_; rintro e w1 ⟨v, rfl, hv, hb⟩; obtain ⟨A5, c5, rfl, _, hv5⟩ := Kd.R_reads hv; have HV := Aside0.mk (And.intro hv5 (below_then HB0.out.1 HB0.out.1.size hb)); have hbk := (hb.block _ (Array.getElem?_eq_some_iff.1 HB0.out.2).1).trans HB0.out.2; have hbk2 := (Below.heap_alloc w1 (.map #[] 0) _ (Array.getElem?_eq_some_iff.1 hbk).1).trans hbk; have q1 := blk2_c1 hbk2; clear hv hv5 hbk hbk2 hb))
  obtain ⟨ps, hps⟩ : ∃ ps, ps = vars.map (idx sc) := ⟨_, rfl⟩
  rw [← hps] at HV
  have hpl : ps.length ≤ 1000000000 := by rw [hps, List.length_map]; exact hm2
  have HPS := Aside0.mk hps
  clear hps
  have HG := Aside0.mk (And.intro (below_alloc (Below.refl w1.heap.size w1) (.map #[] 0)) (Groups.made Tryd.prog 9 w1 ok (fun q hq => Nat.lt_of_lt_of_le (hok q hq) HV.out.2.size)))
  clear hW0 q0 q1 hmm
  go_loopw [18] (fun i W => ∃ (k : Nat), k ≤ rows.length ∧ i = .int .i64 k ∧ Aside0 (Below w1.heap.size w1 W ∧ Groups Tryd.prog 9 W w1.heap.size (w1.heap.size + 1) k ok (groupOf sc (rows.take k) vars))) (fun i _ => rows.length - (intOf i).toNat)
  case atStart => exact ⟨0, Nat.zero_le _, rfl, HG⟩
  case round =>
    clear HG
    obtain ⟨k, hk, rfl, HG⟩ := hrel
    by_cases hlt : k < rows.length
    · have HBW := Aside0.mk (below_then HV.out.2 HV.out.2.size HG.out.1)
      obtain ⟨ad, Bx, cx, rfl, hx, hlx, hcx, hfk⟩ := at_rowF HR.out.2.1 HBW.out k hlt
      have hkl : (k : Int) < (rows.length : Int) := by omega
      have hgt := group_take sc rows vars k hlt
      have hxin : ∀ y ∈ rows.getD k [], -9223372036854775808 ≤ y ∧ y ≤ 9223372036854775807 := HIN.out _ (by rw [getD_get _ _ hlt]; exact List.getElem_mem hlt)
      obtain ⟨x, hxe⟩ : ∃ x, x = rows.getD k [] := ⟨_, rfl⟩
      rw [← hxe] at hx hlx hcx hfk hgt hxin
      rw [← HPS.out] at hgt
      have hkin : InR1 (pick x ps) := fun y hy => hxin y (pick_mem hy)
      have hkl2 : (pick x ps).length ≤ 1000000000 := Nat.le_trans (pick_len x ps) hpl
      have HX := Aside0.mk (And.intro hcx (And.intro hfk (And.intro hkin hgt)))
      clear hcx hfk hkin hgt hxin hxe
      have hpk := tuple_Pick_any Bx cx x A5 c5 ps wr HX.out.1 (Kd.C_below HV.out.1 HG.out.1) hpl
      rw [show ps.length = vars.length by rw [HPS.out, List.length_map]] at hpk
      go_wp2_with (first
        | (go_at_call 34; refine hpk.mono ?_; rintro e w2 ⟨v2, rfl, hv2, hb2⟩; obtain ⟨A6, c6, rfl, _, hv6⟩ := Kd.R_reads hv2; have HP := Aside0.mk (And.intro hv6 hb2); clear hv2 hv6 hb2)
        | (go_at_call 33; refine (key_is HP.out.1 hkl2 HX.out.2.2.1 (HT.out.step (below_then HBW.out HBW.out.size HP.out.2))).mono ?_; rintro e w3 ⟨s, rfl, hs, hb3⟩; have HK := Aside0.mk (And.intro hs (below_then HP.out.2 HP.out.2.size hb3)); obtain ⟨vg, fs, hlook, hfs, hN, hway⟩ := (HG.out.2.step HK.out.2).way (t := 52) (e := 23) Tryd.underlying9 Tryd.underlying52 (zeroRows _) s hs.2 (by unfold Go.maxLen; omega); obtain ⟨Ag, cg, rfl, hcg, hCg⟩ := Kd.N_reads hN; have HN := Aside0.mk (And.intro hfs (And.intro hN hway)); clear hs hb3 hfs hN hway hCg)
        | (at_builtin; refine Kd.N_append KL (w0 := w3) (w1.heap.size + 1) rfl (.tmp 30) (.tmp 32) 23 22 (.slice none 0 0) 24 rfl Tryd.underlying23 infoInts rfl (by decide) (by decide) _ _ x [.slice Bx x.length cx] (fun q => ok q ∨ (fs q ∨ w3.heap.size ≤ q)) ok rfl rfl (Kd.FK_below HX.out.2.1 HK.out.2) (fun q hq => ⟨.inl hq, fun e => by have h1 := Kd.N_base HN.out.2.1 q e.symm; have h2 : q < w.heap.size := hok q hq; have h3 := HV.out.2.size; omega⟩) (fun q hq => .inr (.inr hq)) (Kd.N_mono HN.out.2.1 (fun q hq => hq.elim .inl fun h => .inr (.inl h))) (Below.refl _ _) (Nat.le_trans HG.out.2.base_le HK.out.2.size) (by have h1 := group_len sc (rows.take k) vars s.data.toList; have h2 : (rows.take k).length ≤ k := List.length_take_le _ _; omega) ?_; intro v4 w4 hN4 hB4 hg4 hat4; obtain ⟨W5, hup, HG5, hg5⟩ := HN.out.2.2 v4 w4 _ hg4 hN4 hg4.size; have HU := Aside0.mk (And.intro HG5 (And.intro hg4 (And.intro hg5 (fun j (e : _ = some j) => Kd.N_base HN.out.2.1 j e)))); clear HG5 hg4 hg5 hN4 hB4 hat4))
      go_roundw
      case measure => simp [intOf]; omega
      case rel =>
        refine ⟨k + 1, by omega, by go_num, ⟨?_, ?_⟩⟩
        · have h1 := below_then HG.out.1 HG.out.1.size HK.out.2
          have h2 := h1.grown HU.out.2.1 h1.size (fun j e => by have := HU.out.2.2.2 j e; omega)
          exact h2.grown HU.out.2.2.1 h2.size (fun j e => by have := Option.some.inj e; omega)
        · have h := HU.out.1
          rw [HK.out.1.1] at h
          have e := HX.out.2.2.2
          have e2 : groupOf sc (rows.take (k + 1)) vars = _ := e
          rw [e2]; exact h
    · have hke : k = rows.length := by omega
      subst hke
      rw [List.take_length] at HG
      go_wp2
      go_ret
      exact ⟨_, _, rfl, ⟨HG.out.2, HV.out.2.size⟩, below_then HV.out.2 HV.out.2.size HG.out.1⟩
end Go.Proofs.YtnmonjincnlhiaaDoor.G
