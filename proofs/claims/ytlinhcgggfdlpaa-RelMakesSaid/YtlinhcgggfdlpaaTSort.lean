/- tuple.Sort: rows in their order, each once. -/
import Derived.Test.YtlinhcgggfdlpaaSort
import Derived.Test.YtlinhcgggfdlpaaRead2
set_option linter.unusedVariables false
set_option linter.unusedSimpArgs false
namespace Go.Proofs.Ytlinhcgggfdlpaa.G
open Go.RowKit Go.Proofs.YtlinhcgggfdlpaaW.PrintWords Go.Proofs.YtlinhcgggfdlpaaW.PrintLast Go.Proofs.YtlinhcgggfdlpaaW.PrintMore

/-- A row out of a row of rows that is read. -/
theorem at_row {w w1 : World} {A : Option Addr} {n : Nat} {L : List (List Int)} (h : Kd.C KL w A n L) (hb : Below w.heap.size w w1) (k : Nat) (hk : k < n) :
    ∃ ad B c, A = some ad ∧ w1.cell? (ad.add k) = some (.slice B (L.getD k []).length c) ∧ (L.getD k []).length ≤ c ∧ Kd.C KI w1 B (L.getD k []).length (L.getD k []) := by
  obtain ⟨ad, cs, e, _, hK, hc⟩ := Kd.C_get (Kd.C_below h hb) ([] : List Int) (k : Int) (by omega) (by omega)
  obtain ⟨B, c, rfl, hl, hr⟩ := hK
  have h0 := hc 0 _ rfl
  rw [show KL.sz = 1 from rfl, Nat.mul_one, Nat.add_zero, Int.toNat_natCast] at h0
  exact ⟨ad, B, c, e, h0, hl, hr⟩

theorem R_FK {w1 : World} {B base g : Nat} {v : Value} {x : List Int} (h : Kd.R KI 3 w1 base AnyB v x) (hg : g < base) (hB : B ≤ base) : Kd.FK KL w1 (fun k => B ≤ k ∧ k ≠ g) x [v] :=
  Kd.FK_of_M (base := base) ⟨v, rfl, Kd.R_mono (Kd.R_bound h) (fun k hk => by have := hk.2.1; omega)⟩

/-- Rows in a block of the call's own, as the printed contracts tell them. -/
theorem RowsAt_N {W : World} {B g : Nat} {cur : Array Value} {xs : List (List Int)} (h : RowsAt W B g cur xs) (hB : B ≤ g) (hm : cur.size ≤ maxLen) : Kd.N KL 22 W B (fun k => B ≤ k) (.slice (some ⟨g, 0, none⟩) xs.length cur.size) xs := by
  have hlen := h.len
  have hl1 : (cur.toList.take xs.length).length = xs.length := by simp [hlen]
  have hl2 : ((cur.toList.take xs.length).map fun v => [v]).length = xs.length := by rw [List.length_map, hl1]
  have hat : ∀ j, j < xs.length → (cur.toList.take xs.length)[j]? = some cur[j]! := fun j hj => by
    have hjc : j < cur.size := Nat.lt_of_lt_of_le hj hlen
    rw [List.getElem?_take_of_lt hj]; simp [hjc]
  refine ⟨fun k hk => by simp [Value.ownBlock] at hk; omega, (cur.toList.take xs.length).map fun v => [v], hl2, ⟨fun k hk => hk.symm, cur.toList.take xs.length, ⟨?_, .inr ⟨g, cur.size, cur, ?_, hB, h.blk, ?_, hm, ?_, ?_⟩⟩, ⟨?_, fun j p hj => ?_⟩⟩, fun j x c hx hc => ?_⟩
  · rw [hl1, hl2]; exact (Nat.mul_one _).symm
  · rw [hl2]
  · rw [hl2]; exact hlen
  · exact (Nat.mul_one _).symm
  · rw [hl2]; show cur.toList.take (xs.length * 1) = _; rw [Nat.mul_one]
  · rw [hl1, hl2]; exact (Nat.mul_one _).symm
  · have hjl : j < xs.length := by have := (List.getElem?_eq_some_iff.1 hj).1; rwa [hl2] at this
    have hp : p = [cur[j]!] := by
      rw [List.getElem?_map, hat j hjl] at hj
      injection hj with hj
      exact hj.symm
    subst hp
    have hd : ((cur.toList.take xs.length).drop (j * 1)).take 1 = [cur[j]!] := by
      rw [Nat.mul_one, List.take_one, List.head?_drop, hat j hjl]; rfl
    refine ⟨hd, congrArg List.length hd, fun u hu => ?_⟩
    have hu' : u ∈ [cur[j]!] := hd ▸ hu
    rw [List.mem_singleton.1 hu']
    obtain ⟨A, c, e, _⟩ := FK_open (h.row j hjl)
    rw [e]; rfl
  · obtain ⟨hjl, rfl⟩ := List.getElem?_eq_some_iff.1 hx
    have hc' : c = [cur[j]!] := by
      rw [List.getElem?_map, hat j hjl] at hc
      injection hc with hc
      exact hc.symm
    subst hc'
    exact Kd.FK_mono (h.row j hjl) (fun k hk => ⟨hk.1, by simp [Value.ownBlock]; exact hk.2⟩)

set_option maxHeartbeats 2000000 in
set_option maxRecDepth 100000 in
theorem tuple_Sort_any (A0 : Option Addr) (c0 : Nat) (l0 : List (List Int)) (w : World) (hr0 : Kd.C KL w A0 l0.length l0) (hm : l0.length ≤ 1000000000) (hi : ∀ x ∈ l0, x.length < 17592186044416) :
    Calls Try.prog 49 #[.slice A0 l0.length c0] w fun e w' => ∃ v, e = .returned v ∧ Kd.N KL 22 w' w.heap.size (fun k => w.heap.size ≤ k) v (Pl.sortU l0) ∧ Below w.heap.size w w' := by
  have HR0 := Aside0.mk hr0
  have hmk := fun W => run_make_row' (P := Try.prog) 23 22 (.slice none 0 0) 24 Try.underlying23 infoInts rfl .i64 .i64 l0.length (by omega) (by omega) W
  clear hr0
  go_enter Try.func49, Try.ntmps49
  go_wp2
  have HMK := Aside0.mk hmk
  clear hmk
  have hb0 : Below w.heap.size w (w.alloc (.cells (madeCells #[.slice none 0 0] l0.length) 22)) := below_alloc (Below.refl _ _) _
  have hB0 : RowsAt (w.alloc (.cells (madeCells #[.slice none 0 0] l0.length) 22)) w.heap.size w.heap.size (madeCells #[.slice none 0 0] l0.length) [] := ⟨heap_alloc_new w _, by simp, fun j hj => by simp at hj⟩
  have HB0 := Aside0.mk hB0
  have HBL0 := Aside0.mk hb0
  have HSZ := Aside0.mk (show (madeCells #[.slice none 0 0] l0.length).size = l0.length by simp [madeCells])
  clear hB0 hb0
  go_loopw [11] (fun i W => ∃ (k : Nat) (cur : Array Value), k ≤ l0.length ∧ i = .int .i64 k ∧ Aside0 (cur.size = l0.length) ∧ Aside0 (RowsAt W w.heap.size w.heap.size cur (l0.take k)) ∧ Aside0 (Below w.heap.size w W)) (fun i _ => l0.length - (intOf i).toNat)
  case atStart => exact ⟨0, _, Nat.zero_le _, rfl, HSZ, ⟨by rw [List.take_zero]; exact HB0.out⟩, HBL0⟩
  case round =>
    obtain ⟨k, cur, hk, rfl, HS, HR, HB⟩ := hrel
    by_cases hlt : k < l0.length
    · obtain ⟨ad, Bx, cx, rfl, hx, _, hcx⟩ := at_row HR0.out HB.out k hlt
      have HCX := Aside0.mk hcx
      clear hcx
      have hxl : (l0.getD k []).length < 17592186044416 := by
        refine hi _ ?_
        rw [List.getD_eq_getElem?_getD, List.getElem?_eq_getElem hlt]; exact List.getElem_mem hlt
      have hgx : w.heap.size < wr.heap.size := (Array.getElem?_eq_some_iff.1 HR.out.blk).1
      obtain ⟨x, hxe⟩ : ∃ x, x = l0.getD k [] := ⟨_, rfl⟩
      rw [← hxe] at hx HCX hxl
      have HXE := Aside0.mk hxe
      clear hxe
      have hkl : (k : Int) < (l0.length : Int) := by omega
      go_wp2_with (go_at_call 48; refine (slices_Clone_any _ _ x _ HCX.out hxl).mono ?_; rintro e w1 ⟨v, rfl, hv, hb⟩; obtain ⟨A1, c1, rfl, _, _⟩ := Kd.R_reads hv; have HV := Aside0.mk hv; have HBB := Aside0.mk hb; have hcell := (HR.out.keep hb).cell k (by have := HS.out; omega); have hfr := (HR.out.keep hb).frozen k; clear hv hb)
      go_roundw
      case measure => simp [intOf]; omega
      case rel =>
        have hrow := (HR.out.keep HBB.out).push (i := k) (by simp; omega) (by have := HS.out; omega) (R_FK HV.out hgx (Nat.le_of_lt hgx))
        have ht : l0.take (k + 1) = l0.take k ++ [x] := by rw [List.take_succ_eq_append_getElem hlt, HXE.out, List.getD_eq_getElem?_getD, List.getElem?_eq_getElem hlt]; rfl
        refine ⟨k + 1, cur.setIfInBounds k (.slice A1 x.length c1), by omega, by go_num, ⟨by rw [Array.size_setIfInBounds]; exact HS.out⟩, ⟨by rw [ht]; exact hrow⟩, ⟨?_⟩⟩
        exact (below_then HB.out HB.out.size HBB.out).setCell (Nat.le_refl _) _
    · have hke : k = l0.length := by omega
      subst hke
      rw [List.take_length] at HR
      have hsort := sort_any w.heap.size w.heap.size l0.length cur l0 wr HR.out HS.out hm
      go_wp2_with (first
        | (go_at_call 66; refine hsort.mono ?_; rintro e w1 ⟨rfl, cur1, ys, hR1, hs1, hk1, hb1, hp1, hu1⟩; have hl1 := hp1.length_eq; have hcomp := compact_any w.heap.size w.heap.size l0.length cur1 ys w1 hR1 (by rw [hs1, HS.out, hl1]) (by omega) (by omega); rw [hl1] at hcomp; have HK1 := Aside0.mk hb1; have HS1 := Aside0.mk hs1; have HDD := Aside0.mk (Pl.dd_sorted (l := l0) hu1 (fun x => hp1.mem_iff)); clear hR1 hs1 hk1 hb1 hp1 hu1 hl1)
        | (go_at_call 67; refine hcomp.mono ?_; rintro e w2 ⟨cur2, rfl, hR2, hs2, hk2, hb2⟩; have HR2 := Aside0.mk hR2; have HS2 := Aside0.mk hs2; have HK2 := Aside0.mk hb2; clear hR2 hs2 hk2 hb2 hcomp))
      go_ret
      have hsz : cur2.size = l0.length := by rw [HS2.out, HS1.out, HS.out]
      refine ⟨_, rfl, ?_, ?_⟩
      · have hN := RowsAt_N HR2.out (Nat.le_refl _) (by rw [hsz]; unfold maxLen; omega)
        rw [hsz, HDD.out] at hN
        rw [HDD.out]; exact hN
      · exact (HB.out.trans HK1.out).trans HK2.out
end Go.Proofs.Ytlinhcgggfdlpaa.G
