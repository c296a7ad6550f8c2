/- join.key: a tuple as a text; join.places. -/
import Derived.Test.YtnmonjincnlhiaaDoorShelf
import Derived.Test.YtnmonjincnlhiaaDoorME
import Derived.Test.YtnmonjincnlhiaaDoorMC
import Derived.Lib.AppendIntMem
import Derived.Lib.ItoaLen
import Derived.Lib.Slices
import Derived.Laws.IdiomStrings
import Derived.OwnWalk
import Derived.WalkKit
import Derived.BigCall
set_option linter.unusedVariables false
set_option linter.unusedSimpArgs false
namespace Go.Proofs.YtnmonjincnlhiaaDoor.G
open Go.RowKit Go.Proofs.YtnmonjincnlhiaaDoorW.PrintWords Go.Proofs.YtnmonjincnlhiaaDoorW.PrintLast Go.Proofs.YtnmonjincnlhiaaDoorW.PrintMore

/-- The table that strconv reads. -/
abbrev Tab (w : World) : Prop := Lib.TabIs Tryd.prog w "internal/strconv.uint64pow10" .u64 Lib.pow10Tab
theorem Tab.step {w w1 : World} (h : Tab w) (hb : Below w.heap.size w w1) : Tab w1 := (Lib.tabBelow_of_tabIs h).on hb |>.here
theorem infoByte : (Tryd.prog.info? 5).map (fun i => (i.zero, i.size, i.bytes)) = some (some (.int .u8 0), 1, 1) := by kernel_rfl
/-- Numbers that an int64 may be. -/
def InR1 (t : List Int) : Prop := ∀ x ∈ t, -9223372036854775808 ≤ x ∧ x ≤ 9223372036854775807
theorem keyText_snoc (t : List Int) (n : Int) : keyText (t ++ [n]) = keyText t ++ 32 :: Lib.itoa n := by simp [keyText]
theorem keyText_len (t : List Int) (h : InR1 t) : (keyText t).length ≤ 22 * t.length := by
  induction t with
  | nil => simp [keyText]
  | cons n t ih =>
    have h1 := ih fun x hx => h x (List.mem_cons_of_mem _ hx)
    have h2 := h n List.mem_cons_self
    have h3 := Lib.itoa_length_le n h2.1 h2.2
    have e : keyText (n :: t) = (32 :: Lib.itoa n) ++ keyText t := by simp [keyText]
    rw [e, List.length_append, List.length_cons, List.length_cons]
    omega
theorem own_nil_bytes {w : World} {B : Nat} : w.ownsRow B 5 1 (.slice none 0 0) 0 (Lib.byteCells (keyText [])) := World.ownsRow_nil _ _ _ _

set_option maxHeartbeats 4000000 in
set_option maxRecDepth 100000 in
theorem key_any (A0 : Option Addr) (c0 : Nat) (t : List Int) (w : World) (hr0 : Kd.C KI w A0 t.length t) (hL : t.length ≤ 1000000000) (hin : InR1 t) (htab : Tab w) :
    Calls Tryd.prog 33 #[.slice A0 t.length c0] w fun e w' => e = .returned (.string ⟨(keyText t).toArray⟩) ∧ Below w.heap.size w w' := by
  have HR0 := Aside0.mk hr0
  have HIN := Aside0.mk hin
  have HT := Aside0.mk (Lib.tabBelow_of_tabIs htab)
  clear hr0 hin htab
  obtain ⟨i0, hi, hz0, hz1, hz2⟩ := info_parts infoByte
  go_enter Tryd.func33, Tryd.ntmps33
  go_wp2
  go_loopw [3, 8] (fun v i W => ∃ (k n : Nat), k ≤ t.length ∧ i = .int .i64 k ∧ n = (keyText (t.take k)).length ∧ Aside0 (W.ownsRow w.heap.size 5 1 v n (Lib.byteCells (keyText (t.take k)))) ∧ Aside0 (Below w.heap.size w W)) (fun _ i _ => t.length - (intOf i).toNat)
  case atStart => exact ⟨0, 0, Nat.zero_le _, rfl, rfl, ⟨own_nil_bytes⟩, ⟨Below.refl _ _⟩⟩
  case round =>
    obtain ⟨k, n, hk, rfl, hn, HO, HB⟩ := hrel
    by_cases hlt : k < t.length
    · obtain ⟨ad, rfl, hx⟩ := at_int' HR0.out HB.out k (by omega) (by omega)
      simp only [Int.toNat_natCast] at hx
      have hkl : (k : Int) < (t.length : Int) := by omega
      have hxr := HIN.out (rd t k) (by rw [rd_get t k hlt]; exact List.getElem_mem hlt)
      have hnl : n ≤ 22 * t.length := by
        have := keyText_len (t.take k) (fun x hx => HIN.out x (List.mem_of_mem_take hx))
        rw [hn]; refine Nat.le_trans this ?_; simp; omega
      have HN := Aside0.mk hn
      have ht : Hid (t.take (k + 1) = t.take k ++ [rd t k]) := Lib.hid (take_succ_rd t k hlt)
      clear hn
      have hbs := HB.out.size
      generalize rd t k = x at hx hxr ht
      go_wp2_with (first
        | (at_builtin; refine wpList_append_own _ rfl _ _ 70 rfl w.heap.size 5 i0 (.int .u8 0) 1 1 Tryd.underlying70 hi hz0 hz1 hz2 rfl (by decide) _ _ _ rfl (HO.out.alloc _) ⟨wr.heap.size, 0, none⟩ 1 1 [Value.int .u8 32] rfl rfl (by intro j u' hj; match j, hj with | 0, hj => simp at hj; subst hj; simp [Addr.add]) (by intro u' hu'; simp at hu'; subst hu'; rfl) (by unfold maxLen; omega) (by omega) (by simp; omega) ?_; intro v2 w2 hown2 hgrow hat; have HO2 := Aside0.mk hown2; have HB2 := Aside0.mk ((HB.out.alloc hbs (.cells #[.int .u8 32] 5)).grown hgrow (by simp; omega) (fun k hk => (HO.out.lt k hk).1)); clear hown2 hgrow hat)
        | (go_at_call 52; refine (Tryd.strconv_AppendInt_10 w.heap.size _ x hxr.1 hxr.2 v2 _ w2 HO2.out HB2.out.size (by omega) (HT.out.on HB2.out)).mono ?_; rintro e w3 ⟨v3, rfl, hown3, hnx3, -⟩; have HO3 := Aside0.mk hown3; have HB3 := Aside0.mk (HB2.out.trans hnx3); clear hown3 hnx3))
      go_roundw
      case measure => simp [intOf]; omega
      case rel =>
        refine ⟨k + 1, _, by omega, by go_num, rfl, ⟨?_⟩, HB3⟩
        rw [ht.out, keyText_snoc]
        have h := HO3.out
        have e1 : Lib.byteCells (keyText (t.take k)) ++ [Value.int .u8 32] ++ Lib.byteCells (Lib.itoa x) = Lib.byteCells (keyText (t.take k) ++ 32 :: Lib.itoa x) := by simp [Lib.byteCells]
        have e2 : n + 1 + (Lib.itoa x).length = (keyText (t.take k) ++ 32 :: Lib.itoa x).length := by rw [HN.out]; simp; omega
        rw [← e1, ← e2]
        exact h
    · have hke : k = t.length := by omega
      subst hke
      rw [List.take_length] at hn HO
      have HN := Aside0.mk hn
      clear hn
      rcases HO.out.2 with ⟨hv, h0⟩ | ⟨g, cap, cur, rfl, -, -, -, -, -, -⟩
      · subst hv
        have hnil : keyText t = [] := List.eq_nil_of_length_eq_zero (by rw [← HN.out]; exact h0)
        have hcv : (convert 70 9 (.slice none 0 0)).run Tryd.prog wr = .ok (.string ⟨(keyText t).toArray⟩) wr := by
          rw [run_convert_bytes_string wr 70 9 5 none 0 0 Tryd.underlying70 Tryd.underlying5 Tryd.underlying9, hnil]
          simp [Conv.bytesToString]
          rfl
        go_wp2
        go_ret
        exact ⟨by rw [hnil]; rfl, HB.out⟩
      · have hnn := HN.out
        subst hnn
        have hcv := run_convert_bytes_back (P := Tryd.prog) wr 70 9 5 ⟨g, 0, none⟩ cap (keyText t) Tryd.underlying70 Tryd.underlying5 Tryd.underlying9 (fun j hj => HO.out.cells (g := g) rfl j _ (by simp [Lib.byteCells, hj]))
        go_wp2
        go_ret
        exact ⟨rfl, HB.out⟩

set_option maxHeartbeats 4000000 in
set_option maxRecDepth 100000 in
theorem places_any (A0 : Option Addr) (c0 : Nat) (sc : List Int) (A2 : Option Addr) (c2 : Nat) (onto : List Int) (w : World) (hr0 : Kd.C KI w A0 sc.length sc) (hr2 : Kd.C KI w A2 onto.length onto) (hm2 : onto.length ≤ 1000000000) :
    Calls Tryd.prog 30 #[.slice A0 sc.length c0, .slice A2 onto.length c2] w fun e w' => ∃ v, e = .returned v ∧ Kd.R KI 3 w' w.heap.size AnyB v (onto.map (idx sc)) ∧ Below w.heap.size w w' := by
  have HR0 := Aside0.mk hr0
  have HR2 := Aside0.mk hr2
  have hmk := fun W => run_make_row' (P := Tryd.prog) 22 3 (.int .i64 0) 8 Tryd.underlying22 infoInt rfl .i64 .i64 onto.length (by omega) (by omega) W
  clear hr0 hr2
  go_enter Tryd.func30, Tryd.ntmps30
  go_wp2
  clear hmk
  obtain ⟨W0, hW0⟩ : ∃ W0, w.alloc (.cells (madeCells #[.int .i64 0] onto.length) 3) = W0 := ⟨_, rfl⟩
  have hb0 : Below w.heap.size w W0 := by rw [← hW0]; exact below_alloc (Below.refl _ _) _
  have hI0 : IntsAt W0 w.heap.size (madeCells #[.int .i64 0] onto.length) (onto.map (idx sc)) 0 := ⟨by rw [← hW0]; exact heap_alloc_new w (.cells (madeCells #[.int .i64 0] onto.length) 3), by simp [madeCells], fun j hj => by omega⟩
  rw [hW0]
  have HL0 := Aside0.mk (And.intro hb0 hI0)
  clear hb0 hI0 hW0
  go_loopw [13] (fun i W => ∃ (k : Nat) (cur : Array Value), k ≤ onto.length ∧ i = .int .i64 k ∧ Aside0 (Below w.heap.size w W ∧ IntsAt W w.heap.size cur (onto.map (idx sc)) k)) (fun i _ => onto.length - (intOf i).toNat)
  case atStart => exact ⟨0, _, Nat.zero_le _, rfl, HL0⟩
  case round =>
    obtain ⟨k, cur, hk, rfl, HL⟩ := hrel
    by_cases hlt : k < onto.length
    · obtain ⟨ad, rfl, hx⟩ := at_int' HR2.out HL.out.1 k (by omega) (by omega)
      simp only [Int.toNat_natCast] at hx
      have hcell := HL.out.2.cell k (by simpa using hlt)
      have hfr := HL.out.2.frozen k
      have hkl : (k : Int) < (onto.length : Int) := by omega
      have hcl : ∀ x, Calls Tryd.prog 51 #[.slice A0 sc.length c0, .int .i64 x] wr fun e w' => e = .returned (.int .i64 (idx sc x)) ∧ wr = w' := fun x => slices_Index_any A0 c0 sc x wr (Kd.C_below HR0.out HL.out.1)
      have hrm := Aside0.mk (rd_map onto (idx sc) k hlt)
      have hml := Aside0.mk (show k < (onto.map (idx sc)).length by simpa using hlt)
      go_wp2_with (go_at_call 51; refine (hcl _).mono ?_; rintro e w1 ⟨rfl, rfl⟩)
      go_roundw
      case measure => simp [intOf]; omega
      case rel =>
        refine ⟨k + 1, cur.setIfInBounds k (.int .i64 (idx sc (rd onto k))), by omega, by go_num, ⟨HL.out.1.setCell (p := ⟨w.heap.size, k, none⟩) (Nat.le_refl _) _, ?_⟩⟩
        rw [← hrm.out]; exact HL.out.2.push hml.out
    · have hke : k = onto.length := by omega
      subst hke
      have hR := HL.out.2
      have hlm : (onto.map (idx sc)).length = onto.length := List.length_map _
      have hrow := IntsAt.row (base := w.heap.size) (xs := onto.map (idx sc)) (by rw [hlm]; exact hR) (Nat.le_refl _) (by rw [hlm]; exact hm2)
      rw [hlm] at hrow
      have HRW := Aside0.mk hrow
      clear hR hrow hlm
      go_wp2
      go_ret
      exact ⟨_, rfl, HRW.out, HL.out.1⟩

theorem tuple_Unite_any (A0 : Option Addr) (c0 : Nat) (l0 : List Int) (A1 : Option Addr) (c1 : Nat) (l1 : List Int) (w : World) (hr0 : Kd.C KI w A0 l0.length l0) (hc0 : l0.length ≤ c0) (hr1 : Kd.C KI w A1 l1.length l1) (hc1 : l1.length ≤ c1) (hm : l0.length + l1.length ≤ 1000000000) :
    Calls Tryd.prog 35 #[.slice A0 l0.length c0, .slice A1 l1.length c1] w fun e w' => ∃ v, e = .returned v ∧ Kd.R KI 3 w' w.heap.size AnyB v (merge true true true l0 l1) ∧ Below w.heap.size w w' := by
  have HR0 := Aside0.mk hr0
  have HR1 := Aside0.mk hr1
  have HM := Aside0.mk hm
  clear hr0 hr1 hm
  go_enter Tryd.func35, Tryd.ntmps35
  go_wp2_with (go_at_call 50; refine (merge_any A0 c0 l0 A1 c1 l1 true true true w HR0.out hc0 HR1.out hc1 HM.out).mono ?_; rintro e w' ⟨v, rfl, hv, hb⟩; have HV := Aside0.mk hv; have HB := Aside0.mk hb; clear hv hb)
  go_ret
  exact ⟨_, rfl, HV.out, HB.out⟩
end Go.Proofs.YtnmonjincnlhiaaDoor.G
