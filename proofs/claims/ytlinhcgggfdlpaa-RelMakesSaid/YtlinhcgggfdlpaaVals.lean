/- rel.Values: those that a variable has; rel.Unit. -/
import Derived.Test.YtlinhcgggfdlpaaProject
import Derived.Test.YtlinhcgggfdlpaaSame
set_option linter.unusedVariables false
set_option linter.unusedSimpArgs false
namespace Go.Proofs.Ytlinhcgggfdlpaa.G
open Go.RowKit Go.Proofs.YtlinhcgggfdlpaaW.PrintWords Go.Proofs.YtlinhcgggfdlpaaW.PrintLast Go.Proofs.YtlinhcgggfdlpaaW.PrintMore

def valsOf (sc : List Int) (rows : List (List Int)) (v : Int) : List Int := (projRel sc rows [v]).2.flatten

theorem cutRows_row (sc : List Int) (rows : List (List Int)) (on : List Int) (x : List Int) (h : x ∈ cutRows sc rows on) : x.length ≤ on.length := by
  unfold cutRows at h
  rw [Pl.mem_sortU] at h
  obtain ⟨t, _, rfl⟩ := List.mem_map.1 h
  have : (pick t (on.map (idx sc))).length ≤ (on.map (idx sc)).length := by unfold pick; exact List.length_filterMap_le _ _
  rwa [List.length_map] at this
theorem cutRows_len (sc : List Int) (rows : List (List Int)) (on : List Int) : (cutRows sc rows on).length ≤ rows.length := by
  unfold cutRows; have := Pl.sortU_length_le (rows.map fun t => pick t (on.map (idx sc))); rwa [List.length_map] at this
theorem flatten_len {α : Type} (L : List (List α)) (m : Nat) (h : ∀ x ∈ L, x.length ≤ m) : L.flatten.length ≤ L.length * m := by
  induction L with
  | nil => simp
  | cons a l ih =>
    have h1 := ih (fun x hx => h x (List.mem_cons_of_mem _ hx))
    have h2 := h a List.mem_cons_self
    rw [List.flatten_cons, List.length_append, List.length_cons, Nat.add_mul, Nat.one_mul]
    omega

/-- A row that is written out. -/
theorem lit_row (w : World) (xs : List Int) (base : Nat) (hb : base ≤ w.heap.size) (hm : xs.length ≤ 1000000000) : Kd.R KI 3 (w.alloc (.cells (xs.map (Value.int .i64)).toArray 3)) base AnyB (.slice (some ⟨w.heap.size, 0, none⟩) xs.length xs.length) xs :=
  IntsAt.row (cur := (xs.map (Value.int .i64)).toArray) ⟨heap_alloc_new w _, by simp, fun j hj => by simp [hj, rd_get xs j hj]⟩ hb hm

theorem rel_field0 (a b : Value) (W : World) : (Instr.field 25 (.agg #[a, b]) 0).run Try.prog W = .ok a W := by simp [Instr.field, go_sem, asAgg]
theorem rel_field1 (a b : Value) (W : World) : (Instr.field 25 (.agg #[a, b]) 1).run Try.prog W = .ok b W := by simp [Instr.field, go_sem, asAgg]

set_option maxHeartbeats 4000000 in
set_option maxRecDepth 100000 in
theorem vals_any (A0 : Option Addr) (c0 : Nat) (sc : List Int) (A1 : Option Addr) (c1 : Nat) (rows : List (List Int)) (v : Int) (w : World) (hr0 : Kd.C KI w A0 sc.length sc) (hl0 : sc.length ≤ c0) (hr1 : Kd.C KL w A1 rows.length rows)
    (hm0 : sc.length ≤ 10000) (hm1 : rows.length ≤ 1000000000) :
    Calls Try.prog 30 #[.agg #[.slice A0 sc.length c0, .slice A1 rows.length c1], .int .i64 v] w fun e w' => ∃ u, e = .returned u ∧ Kd.R KI 3 w' w.heap.size AnyB u (valsOf sc rows v) ∧ Below w.heap.size w w' := by
  have HR := Aside0.mk (And.intro hr0 hr1)
  clear hr0 hr1
  have hw1 : Below w.heap.size w (w.alloc (.cells #[.slice A0 sc.length c0, .slice A1 rows.length c1] 25)) := below_alloc (Below.refl _ _) _
  have hlit := lit_row (w.alloc (.cells #[.slice A0 sc.length c0, .slice A1 rows.length c1] 25)) [v] w.heap.size hw1.size (by simp)
  obtain ⟨A2, c2, e2, hl2, hr2⟩ := Kd.R_reads hlit
  injection e2 with e2 e3 e4
  have HX := Aside0.mk (And.intro (below_alloc hw1 (.cells ([v].map (Value.int .i64)).toArray 3)) (e2 ▸ hr2))
  clear hlit hw1 e2 e3 e4 hl2 hr2
  have hf1 := rel_field1
  go_enter Try.func30, Try.ntmps30
  go_wp2_with (go_at_call 25; refine (project_any A0 c0 sc A1 c1 rows (some ⟨w.heap.size + 1, 0, none⟩) 1 [v] _ (Kd.C_below HR.out.1 HX.out.1) hl0 (Kd.C_below HR.out.2 HX.out.1) (by have h := HX.out.2; rwa [World.size_alloc] at h) (by omega) hm1 (by simp)).mono ?_; rintro e w1 ⟨v1, rfl, hv1, hb1⟩; obtain ⟨A3, c3, A4, c4, rfl, hl3, hl4, hr3, hr4⟩ := hv1.reads; have HV := Aside0.mk (And.intro hr4 (below_then HX.out.1 HX.out.1.size hb1)); clear hv1 hb1 hl3 hl4 hr3 hr4)
  obtain ⟨L, hLe⟩ : ∃ L, L = (projRel sc rows [v]).2 := ⟨_, rfl⟩
  rw [← hLe] at HV ⊢
  have hLl : L.length ≤ 1000000000 := by rw [hLe]; exact Nat.le_trans (cutRows_len _ _ _) hm1
  have HLR := Aside0.mk (show ∀ x ∈ L, x.length ≤ 10001 from fun x hx => by
    rw [hLe] at hx
    have h1 := cutRows_row _ _ _ _ hx
    have h2 := merge_len false true false sc (uniqI [v])
    have h3 := uniqI_len [v]
    simp at h3
    unfold onto at h1
    omega)
  have HLE := Aside0.mk hLe
  clear hLe
  go_loopw [5, 14] (fun u i W => ∃ k : Nat, k ≤ L.length ∧ i = .int .i64 k ∧ Aside0 (Kd.R KI 3 W w1.heap.size AnyB u (L.take k).flatten) ∧ Aside0 (Below w1.heap.size w1 W)) (fun _ i _ => L.length - (intOf i).toNat)
  case atStart => exact ⟨0, Nat.zero_le _, rfl, ⟨by rw [List.take_zero]; exact Kd.R_nil _ _ _ _ _⟩, ⟨Below.refl _ _⟩⟩
  case round =>
    obtain ⟨k, hk, rfl, HO, HB⟩ := hrel
    by_cases hlt : k < L.length
    · obtain ⟨ad, Bx, cx, rfl, hx, hlx, hcx⟩ := at_row HV.out.1 HB.out k hlt
      have hkl : (k : Int) < (L.length : Int) := by omega
      obtain ⟨x, hxe⟩ : ∃ x, x = L.getD k [] := ⟨_, rfl⟩
      rw [← hxe] at hx hlx hcx
      have hxm : x ∈ L := by rw [hxe, getD_get _ _ hlt]; exact List.getElem_mem hlt
      have hb1 : (L.take k).flatten.length ≤ k * 10001 := Nat.le_trans (flatten_len _ 10001 fun y hy => HLR.out y (List.mem_of_mem_take hy)) (by rw [List.length_take, Nat.min_eq_left (by omega)]; exact Nat.le_refl _)
      have hb2 := HLR.out x hxm
      have ht : (L.take (k + 1)).flatten = (L.take k).flatten ++ x := by rw [List.take_succ_eq_append_getElem hlt, hxe, getD_get _ _ hlt]; simp only [List.flatten_append, List.flatten_cons, List.flatten_nil, List.append_nil]
      have HT := Aside0.mk (And.intro ht (And.intro hcx (And.intro hb1 hb2)))
      clear hxe hxm ht hcx hb1 hb2
      go_wp2_with (at_builtin; refine app_ints (w := w1) w1.heap.size rfl (.tmp 18) (.tmp 19) rfl _ (L.take k).flatten x Bx cx rfl rfl HO HT.out.2.1 HB HB.out.size (by have := HT.out.2.2; omega) ?_; clear HO HB; intro u1 w2 HO HB HG)
      go_roundw
      case rel => exact ⟨k + 1, by omega, by go_num, by rw [HT.out.1]; exact HO, HB⟩
      case measure => simp [intOf]; omega
    · have hke : k = L.length := by omega
      subst hke
      rw [List.take_length] at HO
      go_wp2
      go_ret
      exact ⟨_, rfl, by unfold valsOf; rw [← HLE.out]; exact Kd.R_lower HO.out HV.out.2.size, below_then HV.out.2 HV.out.2.size HB.out⟩

set_option maxHeartbeats 2000000 in
set_option maxRecDepth 100000 in
theorem unit_any (w : World) : Calls Try.prog 33 #[] w fun e w' => ∃ v, e = .returned v ∧ RelM w' w.heap.size v ([], [[]]) ∧ Below w.heap.size w w' := by
  go_enter Try.func33, Try.ntmps33
  go_wp2
  obtain ⟨W1, hW1⟩ : ∃ W1, w.alloc (.cells #[.slice none 0 0, .slice (some ⟨w.heap.size + 1 + 1, 0, none⟩) 1 1] 25) = W1 := ⟨_, rfl⟩
  rw [hW1]
  have hs1 : W1.heap.size = w.heap.size + 1 := by rw [← hW1]; simp
  have hb1 : Below w.heap.size w W1 := by rw [← hW1]; exact below_alloc (Below.refl _ _) _
  have hx1 : W1.heap[w.heap.size]? = some (.cells #[.slice none 0 0, .slice (some ⟨w.heap.size + 1 + 1, 0, none⟩) 1 1] 25 (0, 0)) := by rw [← hW1]; exact heap_alloc_new w _
  clear hW1
  have hb2 := below_alloc (below_alloc hb1 (.cells #[] 3)) (.cells #[.slice (some ⟨w.heap.size + 1, 0, none⟩) 0 0] 22)
  have hx2 := (Below.heap_alloc (W1.alloc (.cells #[] 3)) (.cells #[.slice (some ⟨w.heap.size + 1, 0, none⟩) 0 0] 22) w.heap.size (by simp; omega)).trans ((Below.heap_alloc W1 (.cells #[] 3) w.heap.size (by omega)).trans hx1)
  have hbk := heap_alloc_new (W1.alloc (.cells #[] 3)) (.cells #[.slice (some ⟨w.heap.size + 1, 0, none⟩) 0 0] 22)
  rw [World.size_alloc, hs1] at hbk
  have hR : Kd.R KI 3 (W1.alloc (.cells #[] 3)) w.heap.size (fun k => w.heap.size ≤ k ∧ k ≠ w.heap.size + 1 + 1) (.slice (some ⟨w.heap.size + 1, 0, none⟩) 0 0) [] :=
    ⟨fun k hk => by simp [Value.ownBlock] at hk; omega, [], by have := World.ownsRow_made (base := w.heap.size) (e := 3) (size := 1) W1 #[] 0 (by omega) (Nat.zero_le _) (by simp); rwa [hs1] at this, Reps.none _ _⟩
  have hR2 := Kd.R_below hR (below_alloc (Below.refl _ _) (.cells #[.slice (some ⟨w.heap.size + 1, 0, none⟩) 0 0] 22))
  have hA : RowsAt ((W1.alloc (.cells #[] 3)).alloc (.cells #[.slice (some ⟨w.heap.size + 1, 0, none⟩) 0 0] 22)) w.heap.size (w.heap.size + 1 + 1) #[.slice (some ⟨w.heap.size + 1, 0, none⟩) 0 0] [[]] :=
    ⟨hbk, by simp, fun j hj => by
      have hj0 : j = 0 := by simpa using hj
      subst hj0
      exact Kd.FK_of_M (base := w.heap.size) ⟨_, rfl, hR2⟩⟩
  have hN := RowsAt_N hA (by omega) (by simp [maxLen])
  clear hA hR hR2 hbk hx1
  generalize (W1.alloc (.cells #[] 3)).alloc (.cells #[.slice (some ⟨w.heap.size + 1, 0, none⟩) 0 0] 22) = W2 at *
  have q0 := blk2_c0 hx2
  have q1 := blk2_c1 hx2
  refine bodyPost_ret (v := .agg #[.slice none 0 0, .slice (some ⟨w.heap.size + 1 + 1, 0, none⟩) 1 1]) (by simp [results, Try.results33, go_sem, q0, q1]) rfl ?_
  exact ⟨_, rfl, ⟨_, _, rfl, Kd.R_nil _ _ _ _ _, hN⟩, hb2⟩
end Go.Proofs.Ytlinhcgggfdlpaa.G
