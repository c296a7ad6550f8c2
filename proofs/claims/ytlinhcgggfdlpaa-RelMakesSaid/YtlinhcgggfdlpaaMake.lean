/- rel.Make: a relation of rows in any order. -/
import Derived.Test.YtlinhcgggfdlpaaCut
import Derived.Test.YtlinhcgggfdlpaaValues
import Derived.Test.YtlinhcgggfdlpaaMerge
set_option linter.unusedVariables false
set_option linter.unusedSimpArgs false
namespace Go.Proofs.Ytlinhcgggfdlpaa.G
open Go.RowKit Go.Proofs.YtlinhcgggfdlpaaW.PrintWords Go.Proofs.YtlinhcgggfdlpaaW.PrintLast Go.Proofs.YtlinhcgggfdlpaaW.PrintMore

/-- A row is as long as the scheme, or not. -/
theorem make1_any (A : Option Addr) (x n c c0 : Nat) (A0 : Option Addr) (Bm : Nat) (b : Bool) (w : World) (hm : w.cell? ⟨Bm, 0, none⟩ = some (.slice A0 n c0)) (hb : (x == n) = b) :
    Calls Try.prog 37 #[.slice A x c, .pointer (some ⟨Bm, 0, none⟩)] w fun e w' => e = .returned (.bool !b) ∧ w = w' := by
  subst hb
  go_enter Try.func37, Try.ntmps37
  go_wp2
  go_ret
  refine ⟨?_, rfl⟩
  congr 2
  cases h : x == n
  · simp only [beq_eq_false_iff_ne] at h; simp; omega
  · simp only [beq_iff_eq] at h; subst h; simp

def Short (n : Nat) (rows : List (List Int)) : Prop := ∃ x ∈ rows, x.length ≠ n
instance (n : Nat) (rows : List (List Int)) : Decidable (Short n rows) := by unfold Short; infer_instance
def ShortIs (i : Int) (n : Nat) (rows : List (List Int)) : Prop := 0 ≤ i ↔ Short n rows

set_option maxHeartbeats 1000000 in
set_option maxRecDepth 100000 in
theorem short_index (A1 : Option Addr) (c1 : Nat) (rows : List (List Int)) (A0 : Option Addr) (n c0 Bm : Nat) (w : World) (hr1 : Kd.C KL w A1 rows.length rows) (hm : w.cell? ⟨Bm, 0, none⟩ = some (.slice A0 n c0)) (hl : rows.length ≤ 1000000000) :
    Calls Try.prog 61 #[.slice A1 rows.length c1, .func (.func 37) #[] #[.pointer (some ⟨Bm, 0, none⟩)]] w fun e w' => ∃ i, e = .returned (.int .i64 i) ∧ ShortIs i n rows ∧ w = w' := by
  have HR1 := Aside0.mk hr1
  have HM := Aside0.mk hm
  clear hr1 hm
  go_enter Try.func61, Try.ntmps61
  go_wp2
  go_loopw [8] (fun i W => ∃ k : Nat, k ≤ rows.length ∧ i = .int .i64 k ∧ Aside0 (w = W ∧ ¬ Short n (rows.take k))) (fun i _ => rows.length - (intOf i).toNat)
  case atStart => exact ⟨0, Nat.zero_le _, rfl, ⟨rfl, by simp [Short]⟩⟩
  case round =>
    obtain ⟨k, hk, rfl, HE⟩ := hrel
    by_cases hlt : k < rows.length
    · obtain ⟨hw, _⟩ := HE.out
      subst hw
      obtain ⟨ad, Bx, cx, rfl, hx, _, _⟩ := at_row HR1.out (Below.refl _ w) k hlt
      have hkl : (k : Int) < (rows.length : Int) := by omega
      obtain ⟨x, hxe⟩ : ∃ x, x = rows.getD k [] := ⟨_, rfl⟩
      rw [← hxe] at hx
      have ht : rows.take (k + 1) = rows.take k ++ [x] := by rw [List.take_succ_eq_append_getElem hlt, hxe, List.getD_eq_getElem?_getD, List.getElem?_eq_getElem hlt]; rfl
      have hxm : x ∈ rows := by rw [hxe, List.getD_eq_getElem?_getD, List.getElem?_eq_getElem hlt]; exact List.getElem_mem hlt
      have HT := Aside0.mk (And.intro ht hxm)
      clear hxe ht hxm
      have eg := enters_of Try.func37 (by kernel_rfl) rfl
      by_cases hs : x.length = n
      · have HX := Aside0.mk hs
        clear hs
        have hcall := make1_any Bx x.length n cx c0 A0 Bm true w HM.out (by simpa using HX.out)
        go_wp2_with (go_at_call 37; refine hcall.mono ?_; rintro e w1 ⟨rfl, rfl⟩)
        go_roundw
        case rel => exact ⟨k + 1, by omega, by go_num, ⟨by first | trivial | rfl, by
          rw [HT.out.1]; rintro ⟨y, hy, hyn⟩
          rcases List.mem_append.1 hy with h | h
          · exact HE.out.2 ⟨y, h, hyn⟩
          · rw [List.mem_singleton.1 h] at hyn; exact hyn HX.out⟩⟩
        case measure => simp [intOf]; omega
      · have HX := Aside0.mk hs
        clear hs
        have hcall := make1_any Bx x.length n cx c0 A0 Bm false w HM.out (by simpa using HX.out)
        go_wp2_with (go_at_call 37; refine hcall.mono ?_; rintro e w1 ⟨rfl, rfl⟩)
        go_ret
        exact ⟨k, rfl, ⟨fun _ => ⟨x, HT.out.2, HX.out⟩, fun _ => by omega⟩, rfl⟩
    · have hke : k = rows.length := by omega
      subst hke
      rw [List.take_length] at HE
      go_wp2
      go_ret
      exact ⟨-1, rfl, ⟨fun h => by omega, fun h => absurd h HE.out.2⟩, HE.out.1⟩

theorem short_any (A1 : Option Addr) (c1 : Nat) (rows : List (List Int)) (A0 : Option Addr) (n c0 Bm : Nat) (w : World) (hr1 : Kd.C KL w A1 rows.length rows) (hm : w.cell? ⟨Bm, 0, none⟩ = some (.slice A0 n c0)) (hl : rows.length ≤ 1000000000) (b : Bool) (hb : decide (Short n rows) = b) :
    Calls Try.prog 36 #[.slice A1 rows.length c1, .func (.func 37) #[] #[.pointer (some ⟨Bm, 0, none⟩)]] w fun e w' => e = .returned (.bool b) ∧ w = w' := by
  subst hb
  have HI := Aside0.mk (short_index A1 c1 rows A0 n c0 Bm w hr1 hm hl)
  clear hr1 hm
  go_enter Try.func36, Try.ntmps36
  go_wp2_with (go_at_call 61; refine HI.out.mono ?_; rintro e w1 ⟨i, rfl, hi, rfl⟩; have HS := Aside0.mk hi; clear hi)
  go_ret
  refine ⟨?_, rfl⟩
  have h := HS.out
  unfold ShortIs at h
  simp [h]

def okMake (sc : List Int) (rows : List (List Int)) : Bool := decide (¬ Short sc.length rows ∧ Rise (sortI sc) ∧ ¬ (0 < sc.length ∧ rd (sortI sc) 0 < 0))
def makeRel (sc : List Int) (rows : List (List Int)) : List Int × List (List Int) := if okMake sc rows then (sortI sc, cutRows sc rows (sortI sc)) else ([], [])
def makeErr (sc : List Int) (rows : List (List Int)) : Int := if okMake sc rows then 0 else 1
/-- Make's answer: a relation, and an error's number. -/
def MakeTo (w w' : World) (e : Ending) (r : List Int × List (List Int)) (err : Int) : Prop := ∃ v, e = .returned (.tuple #[v, .int .i64 err]) ∧ RelM w' w.heap.size v r ∧ Below w.heap.size w w'

theorem values_any (v : Value) (hv : ∃ A n c, v = .slice A n c) (w : World) :
    Calls Try.prog 35 #[v] w fun e w' => e = .returned (.func (.func 60) #[] #[.pointer (some ⟨w.heap.size, 0, none⟩)]) ∧ Below w.heap.size w w' ∧ w.heap.size < w'.heap.size ∧ w'.cell? ⟨w.heap.size, 0, none⟩ = some v := by
  obtain ⟨A, n, c, rfl⟩ := hv
  go_enter Try.func35, Try.ntmps35
  go_wp2
  go_ret
  exact ⟨rfl, below_alloc (Below.refl _ _) _, by simp, cell_of_blk1 (heap_alloc_new w _)⟩

set_option maxHeartbeats 4000000 in
set_option maxRecDepth 100000 in
theorem make_short (A0 : Option Addr) (c0 : Nat) (sc : List Int) (A1 : Option Addr) (c1 : Nat) (rows : List (List Int)) (w : World) (hr0 : Kd.C KI w A0 sc.length sc) (hr1 : Kd.C KL w A1 rows.length rows)
    (hm0 : sc.length ≤ 1000000000) (hm1 : rows.length ≤ 1000000000) (hS : decide (Short sc.length rows) = true) :
    Calls Try.prog 14 #[.slice A0 sc.length c0, .slice A1 rows.length c1] w fun e w' => MakeTo w w' e (makeRel sc rows) (makeErr sc rows) := by
  have hno : okMake sc rows = false := by simp at hS; simp [okMake, hS]
  have HR0 := Aside0.mk hr0
  have HR1 := Aside0.mk hr1
  clear hr0 hr1
  go_enter Try.func14, Try.ntmps14
  obtain ⟨W0, hW0⟩ : ∃ W0, (w.alloc (.cells #[.slice A0 sc.length c0] 22)).alloc (.cells #[.slice none 0 0, .slice none 0 0] 25) = W0 := ⟨_, rfl⟩
  have hb0 : Below w.heap.size w W0 := by rw [← hW0]; exact below_alloc (below_alloc (Below.refl _ _) _) _
  have hX0 : W0.heap[w.heap.size + 1]? = some (.cells #[.slice none 0 0, .slice none 0 0] 25 (0, 0)) := by rw [← hW0]; have := heap_alloc_new (w.alloc (.cells #[.slice A0 sc.length c0] 22)) (.cells #[.slice none 0 0, .slice none 0 0] 25); rwa [World.size_alloc] at this
  have hY0 : W0.heap[w.heap.size]? = some (.cells #[.slice A0 sc.length c0] 22 (0, 0)) := by rw [← hW0]; exact (Below.heap_alloc _ _ _ (by simp)).trans (heap_alloc_new w _)
  have HL0 := Aside0.mk (And.intro hb0 (And.intro hX0 hY0))
  have hsz := (Array.getElem?_eq_some_iff.1 hX0).1
  have hq0 := cell_of_blk1 hY0
  clear hb0 hX0 hY0
  go_wp2_with (first
    | (go_at_call 35; refine (values_any _ ⟨_, _, _, rfl⟩ _).mono ?_; rintro e w1 ⟨rfl, hb1, hs1, hc1⟩; have HB1 := Aside0.mk hb1; have hso := sorted_values A0 c0 sc W0.heap.size w1 hs1 hc1 (Kd.C_below (Kd.C_below HR0.out HL0.out.1) hb1) hm0; clear hb1 hs1 hc1)
    | (go_at_call 34; refine hso.mono ?_; rintro e w2 ⟨v2, rfl, hv2, hb2⟩; obtain ⟨A2, c2, rfl, hl2, hr2⟩ := Kd.R_reads hv2; have HV2 := Aside0.mk (And.intro hl2 hr2); have hb3 := below_then HB1.out HB1.out.size hb2; have hy2 := (hb3.block _ (by omega)).trans HL0.out.2.2; have hx2 := (hb3.block _ hsz).trans HL0.out.2.1;
       have HL2 := Aside0.mk (And.intro (below_then HL0.out.1 HL0.out.1.size hb3) (And.intro hx2 hy2)); have hsh := short_any A1 c1 rows A0 sc.length c0 w.heap.size w2 (Kd.C_below HR1.out HL2.out.1) (cell_of_blk1 hy2) hm1 _ hS; clear hso hv2 hb2 hl2 hr2 hb3 hx2 hy2)
    | (go_at_call 36; refine hsh.mono ?_; rintro e w3 ⟨rfl, rfl⟩; have q0 := blk2_c0 HL2.out.2.1; have q1 := blk_fr (i := 0) HL2.out.2.1; have hs0 := blk2_s0 HL2.out.2.1 (.slice none 0 0); have q2 := blk2_c1 hs0; have q3 := blk_fr (i := 1) hs0; have hs1 := blk2_s1 hs0 (.slice none 0 0); have HS1 := Aside0.mk hs1; clear hs0 hs1; clear hsh HB1 hW0 hq0 hsz HL0))
  have q4 := blk2_c0 HS1.out
  have q5 := blk2_c1 HS1.out
  refine bodyPost_ret (v := .tuple #[.agg #[.slice none 0 0, .slice none 0 0], .int .i64 1]) (by simp [results, Try.results14, go_sem, q4, q5]) rfl ?_
  rw [makeRel, makeErr, hno]
  exact ⟨_, rfl, RelM.none_ _ _, (HL2.out.1.setCell (p := ⟨w.heap.size + 1, 0, none⟩) (Nat.le_succ _) _).setCell (p := ⟨w.heap.size + 1, 1, none⟩) (Nat.le_succ _) _⟩
set_option maxHeartbeats 4000000 in
set_option maxRecDepth 100000 in
theorem make_flat (A0 : Option Addr) (c0 : Nat) (sc : List Int) (A1 : Option Addr) (c1 : Nat) (rows : List (List Int)) (w : World) (hr0 : Kd.C KI w A0 sc.length sc) (hr1 : Kd.C KL w A1 rows.length rows)
    (hm0 : sc.length ≤ 1000000000) (hm1 : rows.length ≤ 1000000000) (hS : decide (Short sc.length rows) = false) (hR : decide (Rise (sortI sc)) = false) :
    Calls Try.prog 14 #[.slice A0 sc.length c0, .slice A1 rows.length c1] w fun e w' => MakeTo w w' e (makeRel sc rows) (makeErr sc rows) := by
  have hno : okMake sc rows = false := by simp at hR; simp [okMake, hR]
  have HR0 := Aside0.mk hr0
  have HR1 := Aside0.mk hr1
  clear hr0 hr1
  go_enter Try.func14, Try.ntmps14
  obtain ⟨W0, hW0⟩ : ∃ W0, (w.alloc (.cells #[.slice A0 sc.length c0] 22)).alloc (.cells #[.slice none 0 0, .slice none 0 0] 25) = W0 := ⟨_, rfl⟩
  have hb0 : Below w.heap.size w W0 := by rw [← hW0]; exact below_alloc (below_alloc (Below.refl _ _) _) _
  have hX0 : W0.heap[w.heap.size + 1]? = some (.cells #[.slice none 0 0, .slice none 0 0] 25 (0, 0)) := by rw [← hW0]; have := heap_alloc_new (w.alloc (.cells #[.slice A0 sc.length c0] 22)) (.cells #[.slice none 0 0, .slice none 0 0] 25); rwa [World.size_alloc] at this
  have hY0 : W0.heap[w.heap.size]? = some (.cells #[.slice A0 sc.length c0] 22 (0, 0)) := by rw [← hW0]; exact (Below.heap_alloc _ _ _ (by simp)).trans (heap_alloc_new w _)
  have HL0 := Aside0.mk (And.intro hb0 (And.intro hX0 hY0))
  have hsz := (Array.getElem?_eq_some_iff.1 hX0).1
  have hq0 := cell_of_blk1 hY0
  clear hb0 hX0 hY0
  go_wp2_with (first
    | (go_at_call 35; refine (values_any _ ⟨_, _, _, rfl⟩ _).mono ?_; rintro e w1 ⟨rfl, hb1, hs1, hc1⟩; have HB1 := Aside0.mk hb1; have hso := sorted_values A0 c0 sc W0.heap.size w1 hs1 hc1 (Kd.C_below (Kd.C_below HR0.out HL0.out.1) hb1) hm0; clear hb1 hs1 hc1)
    | (go_at_call 34; refine hso.mono ?_; rintro e w2 ⟨v2, rfl, hv2, hb2⟩; obtain ⟨A2, c2, rfl, hl2, hr2⟩ := Kd.R_reads hv2; have HV2 := Aside0.mk (And.intro hl2 hr2); have hb3 := below_then HB1.out HB1.out.size hb2; have hy2 := (hb3.block _ (by omega)).trans HL0.out.2.2; have hx2 := (hb3.block _ hsz).trans HL0.out.2.1;
       have HL2 := Aside0.mk (And.intro (below_then HL0.out.1 HL0.out.1.size hb3) (And.intro hx2 hy2)); have hsh := short_any A1 c1 rows A0 sc.length c0 w.heap.size w2 (Kd.C_below HR1.out HL2.out.1) (cell_of_blk1 hy2) hm1 _ hS; clear hso hv2 hb2 hl2 hr2 hb3 hx2 hy2)
    | (go_at_call 36; refine hsh.mono ?_; rintro e w3 ⟨rfl, rfl⟩;  clear hsh HB1 hW0 hq0 hsz HL0)
    | (go_at_call 38; refine (tuple_Rising_any A2 c2 (sortI sc) _ HV2.out.2).mono ?_; rintro e w3 ⟨rfl, hd⟩; have hb4 := hd.below; have hx3 := (hb4.block _ (Array.getElem?_eq_some_iff.1 HL2.out.2.1).1).trans HL2.out.2.1; have hy3 := (hb4.block _ (Array.getElem?_eq_some_iff.1 HL2.out.2.2).1).trans HL2.out.2.2; have HL3 := Aside0.mk (And.intro (below_then HL2.out.1 HL2.out.1.size hb4) (And.intro hx3 hy3)); have HV3 := Aside0.mk (And.intro HV2.out.1 (Kd.C_below HV2.out.2 hb4)); clear hd hb4 hx3 hy3; have q0 := blk2_c0 HL3.out.2.1; have q1 := blk_fr (i := 0) HL3.out.2.1; have hs0 := blk2_s0 HL3.out.2.1 (.slice none 0 0); have q2 := blk2_c1 hs0; have q3 := blk_fr (i := 1) hs0; have hs1 := blk2_s1 hs0 (.slice none 0 0); have HS1 := Aside0.mk hs1; clear hs0 hs1;))
  have q4 := blk2_c0 HS1.out
  have q5 := blk2_c1 HS1.out
  refine bodyPost_ret (v := .tuple #[.agg #[.slice none 0 0, .slice none 0 0], .int .i64 1]) (by simp [results, Try.results14, go_sem, q4, q5]) rfl ?_
  rw [makeRel, makeErr, hno]
  exact ⟨_, rfl, RelM.none_ _ _, (HL3.out.1.setCell (p := ⟨w.heap.size + 1, 0, none⟩) (Nat.le_succ _) _).setCell (p := ⟨w.heap.size + 1, 1, none⟩) (Nat.le_succ _) _⟩
set_option maxHeartbeats 4000000 in
set_option maxRecDepth 100000 in
theorem make_neg (A0 : Option Addr) (c0 : Nat) (sc : List Int) (A1 : Option Addr) (c1 : Nat) (rows : List (List Int)) (w : World) (hr0 : Kd.C KI w A0 sc.length sc) (hr1 : Kd.C KL w A1 rows.length rows)
    (hm0 : sc.length ≤ 1000000000) (hm1 : rows.length ≤ 1000000000) (hS : decide (Short sc.length rows) = false) (hR : decide (Rise (sortI sc)) = true) (hP : 0 < sc.length) (hN : rd (sortI sc) 0 < 0) :
    Calls Try.prog 14 #[.slice A0 sc.length c0, .slice A1 rows.length c1] w fun e w' => MakeTo w w' e (makeRel sc rows) (makeErr sc rows) := by
  have hno : okMake sc rows = false := by simp [okMake, hN, hP]
  have hp : 0 < (sortI sc).length := by rw [sortI_len]; exact hP
  have hpi : (0 : Int) < ((sortI sc).length : Int) := by omega
  have HR0 := Aside0.mk hr0
  have HR1 := Aside0.mk hr1
  clear hr0 hr1
  go_enter Try.func14, Try.ntmps14
  obtain ⟨W0, hW0⟩ : ∃ W0, (w.alloc (.cells #[.slice A0 sc.length c0] 22)).alloc (.cells #[.slice none 0 0, .slice none 0 0] 25) = W0 := ⟨_, rfl⟩
  have hb0 : Below w.heap.size w W0 := by rw [← hW0]; exact below_alloc (below_alloc (Below.refl _ _) _) _
  have hX0 : W0.heap[w.heap.size + 1]? = some (.cells #[.slice none 0 0, .slice none 0 0] 25 (0, 0)) := by rw [← hW0]; have := heap_alloc_new (w.alloc (.cells #[.slice A0 sc.length c0] 22)) (.cells #[.slice none 0 0, .slice none 0 0] 25); rwa [World.size_alloc] at this
  have hY0 : W0.heap[w.heap.size]? = some (.cells #[.slice A0 sc.length c0] 22 (0, 0)) := by rw [← hW0]; exact (Below.heap_alloc _ _ _ (by simp)).trans (heap_alloc_new w _)
  have HL0 := Aside0.mk (And.intro hb0 (And.intro hX0 hY0))
  have hsz := (Array.getElem?_eq_some_iff.1 hX0).1
  have hq0 := cell_of_blk1 hY0
  clear hb0 hX0 hY0
  go_wp2_with (first
    | (go_at_call 35; refine (values_any _ ⟨_, _, _, rfl⟩ _).mono ?_; rintro e w1 ⟨rfl, hb1, hs1, hc1⟩; have HB1 := Aside0.mk hb1; have hso := sorted_values A0 c0 sc W0.heap.size w1 hs1 hc1 (Kd.C_below (Kd.C_below HR0.out HL0.out.1) hb1) hm0; clear hb1 hs1 hc1)
    | (go_at_call 34; refine hso.mono ?_; rintro e w2 ⟨v2, rfl, hv2, hb2⟩; obtain ⟨A2, c2, rfl, hl2, hr2⟩ := Kd.R_reads hv2; have HV2 := Aside0.mk (And.intro hl2 hr2); have hb3 := below_then HB1.out HB1.out.size hb2; have hy2 := (hb3.block _ (by omega)).trans HL0.out.2.2; have hx2 := (hb3.block _ hsz).trans HL0.out.2.1;
       have HL2 := Aside0.mk (And.intro (below_then HL0.out.1 HL0.out.1.size hb3) (And.intro hx2 hy2)); have hsh := short_any A1 c1 rows A0 sc.length c0 w.heap.size w2 (Kd.C_below HR1.out HL2.out.1) (cell_of_blk1 hy2) hm1 _ hS; clear hso hv2 hb2 hl2 hr2 hb3 hx2 hy2)
    | (go_at_call 36; refine hsh.mono ?_; rintro e w3 ⟨rfl, rfl⟩;  clear hsh HB1 hW0 hq0 hsz HL0)
    | (go_at_call 38; refine (tuple_Rising_any A2 c2 (sortI sc) _ HV2.out.2).mono ?_; rintro e w3 ⟨rfl, hd⟩; have hb4 := hd.below; have hx3 := (hb4.block _ (Array.getElem?_eq_some_iff.1 HL2.out.2.1).1).trans HL2.out.2.1; have hy3 := (hb4.block _ (Array.getElem?_eq_some_iff.1 HL2.out.2.2).1).trans HL2.out.2.2; have HL3 := Aside0.mk (And.intro (below_then HL2.out.1 HL2.out.1.size hb4) (And.intro hx3 hy3)); have HV3 := Aside0.mk (And.intro HV2.out.1 (Kd.C_below HV2.out.2 hb4)); clear hd hb4 hx3 hy3; obtain ⟨ad, ea, hx⟩ := at_int' HV3.out.2 (Below.refl _ _) 0 (by omega) hpi; subst ea; simp only [Int.toNat_zero, Addr.add_zero'] at hx; have q0 := blk2_c0 HL3.out.2.1; have q1 := blk_fr (i := 0) HL3.out.2.1; have hs0 := blk2_s0 HL3.out.2.1 (.slice none 0 0); have q2 := blk2_c1 hs0; have q3 := blk_fr (i := 1) hs0; have hs1 := blk2_s1 hs0 (.slice none 0 0); have HS1 := Aside0.mk hs1; clear hs0 hs1;))
  have q4 := blk2_c0 HS1.out
  have q5 := blk2_c1 HS1.out
  refine bodyPost_ret (v := .tuple #[.agg #[.slice none 0 0, .slice none 0 0], .int .i64 1]) (by simp [results, Try.results14, go_sem, q4, q5]) rfl ?_
  rw [makeRel, makeErr, hno]
  exact ⟨_, rfl, RelM.none_ _ _, (HL3.out.1.setCell (p := ⟨w.heap.size + 1, 0, none⟩) (Nat.le_succ _) _).setCell (p := ⟨w.heap.size + 1, 1, none⟩) (Nat.le_succ _) _⟩
set_option maxHeartbeats 4000000 in
set_option maxRecDepth 100000 in
theorem make_none (A0 : Option Addr) (c0 : Nat) (sc : List Int) (A1 : Option Addr) (c1 : Nat) (rows : List (List Int)) (w : World) (hr0 : Kd.C KI w A0 sc.length sc) (hr1 : Kd.C KL w A1 rows.length rows)
    (hm0 : sc.length ≤ 1000000000) (hm1 : rows.length ≤ 1000000000) (hS : decide (Short sc.length rows) = false) (hR : decide (Rise (sortI sc)) = true) (hP : sc.length = 0) :
    Calls Try.prog 14 #[.slice A0 sc.length c0, .slice A1 rows.length c1] w fun e w' => MakeTo w w' e (makeRel sc rows) (makeErr sc rows) := by
  have hno : okMake sc rows = true := by simp only [decide_eq_true_eq, decide_eq_false_iff_not] at hR hS; simp only [okMake, decide_eq_true_eq]; exact ⟨hS, hR, by omega⟩
  have hz : (sortI sc).length = 0 := by rw [sortI_len]; exact hP
  have hpi : ¬ (0 : Int) < ((sortI sc).length : Int) := by omega
  have hpd : decide ((0 : Int) < ((sortI sc).length : Int)) = false := decide_eq_false hpi
  have hpe : decide (0 < (sortI sc).length) = false := decide_eq_false (by omega)
  clear hz hP hpi
  have HR0 := Aside0.mk hr0
  have HR1 := Aside0.mk hr1
  clear hr0 hr1
  go_enter Try.func14, Try.ntmps14
  obtain ⟨W0, hW0⟩ : ∃ W0, (w.alloc (.cells #[.slice A0 sc.length c0] 22)).alloc (.cells #[.slice none 0 0, .slice none 0 0] 25) = W0 := ⟨_, rfl⟩
  have hb0 : Below w.heap.size w W0 := by rw [← hW0]; exact below_alloc (below_alloc (Below.refl _ _) _) _
  have hX0 : W0.heap[w.heap.size + 1]? = some (.cells #[.slice none 0 0, .slice none 0 0] 25 (0, 0)) := by rw [← hW0]; have := heap_alloc_new (w.alloc (.cells #[.slice A0 sc.length c0] 22)) (.cells #[.slice none 0 0, .slice none 0 0] 25); rwa [World.size_alloc] at this
  have hY0 : W0.heap[w.heap.size]? = some (.cells #[.slice A0 sc.length c0] 22 (0, 0)) := by rw [← hW0]; exact (Below.heap_alloc _ _ _ (by simp)).trans (heap_alloc_new w _)
  have HL0 := Aside0.mk (And.intro hb0 (And.intro hX0 hY0))
  have hsz := (Array.getElem?_eq_some_iff.1 hX0).1
  have hq0 := cell_of_blk1 hY0
  clear hb0 hX0 hY0
  go_wp2_with (first
    | (go_at_call 35; refine (values_any _ ⟨_, _, _, rfl⟩ _).mono ?_; rintro e w1 ⟨rfl, hb1, hs1, hc1⟩; have HB1 := Aside0.mk hb1; have hso := sorted_values A0 c0 sc W0.heap.size w1 hs1 hc1 (Kd.C_below (Kd.C_below HR0.out HL0.out.1) hb1) hm0; clear hb1 hs1 hc1)
    | (go_at_call 34; refine hso.mono ?_; rintro e w2 ⟨v2, rfl, hv2, hb2⟩; obtain ⟨A2, c2, rfl, hl2, hr2⟩ := Kd.R_reads hv2; have HV2 := Aside0.mk (And.intro hl2 hr2); have hb3 := below_then HB1.out HB1.out.size hb2; have hy2 := (hb3.block _ (by omega)).trans HL0.out.2.2; have hx2 := (hb3.block _ hsz).trans HL0.out.2.1;
       have HL2 := Aside0.mk (And.intro (below_then HL0.out.1 HL0.out.1.size hb3) (And.intro hx2 hy2)); have hsh := short_any A1 c1 rows A0 sc.length c0 w.heap.size w2 (Kd.C_below HR1.out HL2.out.1) (cell_of_blk1 hy2) hm1 _ hS; clear hso hv2 hb2 hl2 hr2 hb3 hx2 hy2)
    | (go_at_call 36; refine hsh.mono ?_; rintro e w3 ⟨rfl, rfl⟩;  clear hsh HB1 hW0 hq0 hsz HL0)
    | (go_at_call 38; refine (tuple_Rising_any A2 c2 (sortI sc) _ HV2.out.2).mono ?_; rintro e w3 ⟨rfl, hd⟩; have hb4 := hd.below; have hx3 := (hb4.block _ (Array.getElem?_eq_some_iff.1 HL2.out.2.1).1).trans HL2.out.2.1; have hy3 := (hb4.block _ (Array.getElem?_eq_some_iff.1 HL2.out.2.2).1).trans HL2.out.2.2; have HL3 := Aside0.mk (And.intro (below_then HL2.out.1 HL2.out.1.size hb4) (And.intro hx3 hy3)); have HV3 := Aside0.mk (And.intro HV2.out.1 (Kd.C_below HV2.out.2 hb4)); clear hd hb4 hx3 hy3; have hq3 := cell_of_blk1 HL3.out.2.2)
    | (go_at_call 39; refine (cut_any A0 c0 sc A1 c1 rows A2 c2 (sortI sc) _ (Kd.C_below HR0.out HL3.out.1) (Kd.C_below HR1.out HL3.out.1) HV3.out.2 hm1 (by rw [sortI_len]; exact hm0)).mono ?_; rintro e w4 ⟨v4, rfl, hv4, hb4⟩; have hx4 := (hb4.block _ (Array.getElem?_eq_some_iff.1 HL3.out.2.1).1).trans HL3.out.2.1; obtain ⟨s0, s1, rfl, h0, h1⟩ := hv4; obtain ⟨A5, c5, rfl, _, _⟩ := Kd.R_reads h0; obtain ⟨A6, c6, rfl, _, _⟩ := Kd.N_reads h1; have HM := Aside0.mk (show RelM w4 w3.heap.size (.agg #[.slice A5 _ c5, .slice A6 _ c6]) (sortI sc, cutRows sc rows (sortI sc)) from ⟨_, _, rfl, h0, h1⟩); have q0 := blk2_c0 hx4; have q1 := blk_fr (i := 0) hx4; have hs0 := blk2_s0 hx4 (.slice A5 (sortI sc).length c5); have q2 := blk2_c1 hs0; have q3 := blk_fr (i := 1) hs0; have hs1 := blk2_s1 hs0 (.slice A6 (cutRows sc rows (sortI sc)).length c6); have HS1 := Aside0.mk hs1; have HB4 := Aside0.mk (And.intro hb4 hx4); clear hs0 hs1 hb4 hx4 h0 h1))
  have q4 := blk2_c0 HS1.out
  have q5 := blk2_c1 HS1.out
  refine bodyPost_ret (v := .tuple #[.agg #[.slice A5 (sortI sc).length c5, .slice A6 (cutRows sc rows (sortI sc)).length c6], .int .i64 0]) (by simp [results, Try.results14, go_sem, q4, q5]) rfl ?_
  rw [makeRel, makeErr, hno]
  have hlt : w.heap.size + 1 < w3.heap.size := (Array.getElem?_eq_some_iff.1 HL3.out.2.1).1
  refine ⟨_, rfl, RelM.lower (((HM.out.far (p := ⟨w.heap.size + 1, 0, none⟩) hlt _).far (p := ⟨w.heap.size + 1, 1, none⟩) hlt _)) (by omega), ?_⟩
  have h1 := below_then HL3.out.1 HL3.out.1.size HB4.out.1
  exact (h1.setCell (p := ⟨w.heap.size + 1, 0, none⟩) (Nat.le_succ _) _).setCell (p := ⟨w.heap.size + 1, 1, none⟩) (Nat.le_succ _) _
set_option maxHeartbeats 4000000 in
set_option maxRecDepth 100000 in
theorem make_some (A0 : Option Addr) (c0 : Nat) (sc : List Int) (A1 : Option Addr) (c1 : Nat) (rows : List (List Int)) (w : World) (hr0 : Kd.C KI w A0 sc.length sc) (hr1 : Kd.C KL w A1 rows.length rows)
    (hm0 : sc.length ≤ 1000000000) (hm1 : rows.length ≤ 1000000000) (hS : decide (Short sc.length rows) = false) (hR : decide (Rise (sortI sc)) = true) (hP : 0 < sc.length) (hN : ¬ rd (sortI sc) 0 < 0) :
    Calls Try.prog 14 #[.slice A0 sc.length c0, .slice A1 rows.length c1] w fun e w' => MakeTo w w' e (makeRel sc rows) (makeErr sc rows) := by
  have hno : okMake sc rows = true := by simp only [decide_eq_true_eq, decide_eq_false_iff_not] at hR hS; simp [okMake, hR, hS, hN]
  have hp : 0 < (sortI sc).length := by rw [sortI_len]; exact hP
  have hpi : (0 : Int) < ((sortI sc).length : Int) := by omega
  have HR0 := Aside0.mk hr0
  have HR1 := Aside0.mk hr1
  clear hr0 hr1
  go_enter Try.func14, Try.ntmps14
  obtain ⟨W0, hW0⟩ : ∃ W0, (w.alloc (.cells #[.slice A0 sc.length c0] 22)).alloc (.cells #[.slice none 0 0, .slice none 0 0] 25) = W0 := ⟨_, rfl⟩
  have hb0 : Below w.heap.size w W0 := by rw [← hW0]; exact below_alloc (below_alloc (Below.refl _ _) _) _
  have hX0 : W0.heap[w.heap.size + 1]? = some (.cells #[.slice none 0 0, .slice none 0 0] 25 (0, 0)) := by rw [← hW0]; have := heap_alloc_new (w.alloc (.cells #[.slice A0 sc.length c0] 22)) (.cells #[.slice none 0 0, .slice none 0 0] 25); rwa [World.size_alloc] at this
  have hY0 : W0.heap[w.heap.size]? = some (.cells #[.slice A0 sc.length c0] 22 (0, 0)) := by rw [← hW0]; exact (Below.heap_alloc _ _ _ (by simp)).trans (heap_alloc_new w _)
  have HL0 := Aside0.mk (And.intro hb0 (And.intro hX0 hY0))
  have hsz := (Array.getElem?_eq_some_iff.1 hX0).1
  have hq0 := cell_of_blk1 hY0
  clear hb0 hX0 hY0
  go_wp2_with (first
    | (go_at_call 35; refine (values_any _ ⟨_, _, _, rfl⟩ _).mono ?_; rintro e w1 ⟨rfl, hb1, hs1, hc1⟩; have HB1 := Aside0.mk hb1; have hso := sorted_values A0 c0 sc W0.heap.size w1 hs1 hc1 (Kd.C_below (Kd.C_below HR0.out HL0.out.1) hb1) hm0; clear hb1 hs1 hc1)
    | (go_at_call 34; refine hso.mono ?_; rintro e w2 ⟨v2, rfl, hv2, hb2⟩; obtain ⟨A2, c2, rfl, hl2, hr2⟩ := Kd.R_reads hv2; have HV2 := Aside0.mk (And.intro hl2 hr2); have hb3 := below_then HB1.out HB1.out.size hb2; have hy2 := (hb3.block _ (by omega)).trans HL0.out.2.2; have hx2 := (hb3.block _ hsz).trans HL0.out.2.1;
       have HL2 := Aside0.mk (And.intro (below_then HL0.out.1 HL0.out.1.size hb3) (And.intro hx2 hy2)); have hsh := short_any A1 c1 rows A0 sc.length c0 w.heap.size w2 (Kd.C_below HR1.out HL2.out.1) (cell_of_blk1 hy2) hm1 _ hS; clear hso hv2 hb2 hl2 hr2 hb3 hx2 hy2)
    | (go_at_call 36; refine hsh.mono ?_; rintro e w3 ⟨rfl, rfl⟩;  clear hsh HB1 hW0 hq0 hsz HL0)
    | (go_at_call 38; refine (tuple_Rising_any A2 c2 (sortI sc) _ HV2.out.2).mono ?_; rintro e w3 ⟨rfl, hd⟩; have hb4 := hd.below; have hx3 := (hb4.block _ (Array.getElem?_eq_some_iff.1 HL2.out.2.1).1).trans HL2.out.2.1; have hy3 := (hb4.block _ (Array.getElem?_eq_some_iff.1 HL2.out.2.2).1).trans HL2.out.2.2; have HL3 := Aside0.mk (And.intro (below_then HL2.out.1 HL2.out.1.size hb4) (And.intro hx3 hy3)); have HV3 := Aside0.mk (And.intro HV2.out.1 (Kd.C_below HV2.out.2 hb4)); clear hd hb4 hx3 hy3; obtain ⟨ad, ea, hx⟩ := at_int' HV3.out.2 (Below.refl _ _) 0 (by omega) hpi; subst ea; simp only [Int.toNat_zero, Addr.add_zero'] at hx; have hq3 := cell_of_blk1 HL3.out.2.2)
    | (go_at_call 39; refine (cut_any A0 c0 sc A1 c1 rows (some ad) c2 (sortI sc) _ (Kd.C_below HR0.out HL3.out.1) (Kd.C_below HR1.out HL3.out.1) HV3.out.2 hm1 (by rw [sortI_len]; exact hm0)).mono ?_; rintro e w4 ⟨v4, rfl, hv4, hb4⟩; have hx4 := (hb4.block _ (Array.getElem?_eq_some_iff.1 HL3.out.2.1).1).trans HL3.out.2.1; obtain ⟨s0, s1, rfl, h0, h1⟩ := hv4; obtain ⟨A5, c5, rfl, _, _⟩ := Kd.R_reads h0; obtain ⟨A6, c6, rfl, _, _⟩ := Kd.N_reads h1; have HM := Aside0.mk (show RelM w4 w3.heap.size (.agg #[.slice A5 _ c5, .slice A6 _ c6]) (sortI sc, cutRows sc rows (sortI sc)) from ⟨_, _, rfl, h0, h1⟩); have q0 := blk2_c0 hx4; have q1 := blk_fr (i := 0) hx4; have hs0 := blk2_s0 hx4 (.slice A5 (sortI sc).length c5); have q2 := blk2_c1 hs0; have q3 := blk_fr (i := 1) hs0; have hs1 := blk2_s1 hs0 (.slice A6 (cutRows sc rows (sortI sc)).length c6); have HS1 := Aside0.mk hs1; have HB4 := Aside0.mk (And.intro hb4 hx4); clear hs0 hs1 hb4 hx4 h0 h1))
  have q4 := blk2_c0 HS1.out
  have q5 := blk2_c1 HS1.out
  refine bodyPost_ret (v := .tuple #[.agg #[.slice A5 (sortI sc).length c5, .slice A6 (cutRows sc rows (sortI sc)).length c6], .int .i64 0]) (by simp [results, Try.results14, go_sem, q4, q5]) rfl ?_
  rw [makeRel, makeErr, hno]
  have hlt : w.heap.size + 1 < w3.heap.size := (Array.getElem?_eq_some_iff.1 HL3.out.2.1).1
  refine ⟨_, rfl, RelM.lower (((HM.out.far (p := ⟨w.heap.size + 1, 0, none⟩) hlt _).far (p := ⟨w.heap.size + 1, 1, none⟩) hlt _)) (by omega), ?_⟩
  have h1 := below_then HL3.out.1 HL3.out.1.size HB4.out.1
  exact (h1.setCell (p := ⟨w.heap.size + 1, 0, none⟩) (Nat.le_succ _) _).setCell (p := ⟨w.heap.size + 1, 1, none⟩) (Nat.le_succ _) _

theorem make_any (A0 : Option Addr) (c0 : Nat) (sc : List Int) (A1 : Option Addr) (c1 : Nat) (rows : List (List Int)) (w : World) (hr0 : Kd.C KI w A0 sc.length sc) (hr1 : Kd.C KL w A1 rows.length rows)
    (hm0 : sc.length ≤ 1000000000) (hm1 : rows.length ≤ 1000000000) :
    Calls Try.prog 14 #[.slice A0 sc.length c0, .slice A1 rows.length c1] w fun e w' => MakeTo w w' e (makeRel sc rows) (makeErr sc rows) := by
  by_cases hS : Short sc.length rows
  · exact make_short A0 c0 sc A1 c1 rows w hr0 hr1 hm0 hm1 (decide_eq_true hS)
  · have hS' := decide_eq_false hS
    by_cases hR : Rise (sortI sc)
    · have hR' := decide_eq_true hR
      rcases Nat.eq_zero_or_pos sc.length with hP | hP
      · exact make_none A0 c0 sc A1 c1 rows w hr0 hr1 hm0 hm1 hS' hR' hP
      · by_cases hN : rd (sortI sc) 0 < 0
        · exact make_neg A0 c0 sc A1 c1 rows w hr0 hr1 hm0 hm1 hS' hR' hP hN
        · exact make_some A0 c0 sc A1 c1 rows w hr0 hr1 hm0 hm1 hS' hR' hP hN
    · exact make_flat A0 c0 sc A1 c1 rows w hr0 hr1 hm0 hm1 hS' (decide_eq_false hR)
end Go.Proofs.Ytlinhcgggfdlpaa.G
