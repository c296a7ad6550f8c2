/- Several texts of this claim in one. -/
import Derived.Test.YtlmkgghpaaadhaaGreatDoorMA
import Derived.Test.YtlmkgghpaaadhaaGreatDoorME
/- The document's functions of layer 1, walked: Compare, Copy, In. -/
set_option linter.unusedVariables false
set_option linter.unusedSimpArgs false
namespace Go.Proofs.YtlmkgghpaaadhaaGreatDoor.G
open Go.RowKit Go.Proofs.YtlmkgghpaaadhaaGreatDoorW.PrintWords Go.Proofs.YtlmkgghpaaadhaaGreatDoorW.PrintLast Go.Proofs.YtlmkgghpaaadhaaGreatDoorW.PrintMore

set_option maxHeartbeats 2000000 in
set_option maxRecDepth 100000 in
theorem refcmp_any {A0 : Option Addr} {c0 : Nat} {l0 : List Int} {A1 : Option Addr} {c1 : Nat} {l1 : List Int} {w : World}
    (hr0 : Kd.C KI w A0 l0.length l0) (hr1 : Kd.C KI w A1 l1.length l1) (hm0 : l0.length ≤ 1000000000000) (hm1 : l1.length ≤ 1000000000000) :
    Calls Tryz.prog 55 #[.slice A0 l0.length c0, .slice A1 l1.length c1] w fun e w' => e = .returned (.int .i64 (Pl.cmp l0 l1)) ∧ Drawn0 w w' := by
  have HR0 := Aside0.mk hr0
  have HR1 := Aside0.mk hr1
  clear hr0 hr1
  go_enter Tryz.func55, Tryz.ntmps55
  go_wp2
  go_loopw [5] (fun i wr => ∃ k : Nat, k ≤ l0.length ∧ k ≤ l1.length ∧ i = .int .i64 k ∧ Aside0 (Drawn0 w wr) ∧ Aside0 (Pl.cmp (l0.drop k) (l1.drop k) = Pl.cmp l0 l1)) (fun i _ => l0.length - (intOf i).toNat)
  case atStart => exact ⟨0, Nat.zero_le _, Nat.zero_le _, rfl, ⟨Drawn0.refl w⟩, ⟨rfl⟩⟩
  case round =>
    obtain ⟨k, hk, hk1, rfl, HW, HE⟩ := hrel
    by_cases hlt : k < l0.length
    · have hl0 : (k : Int) < (l0.length : Int) := by omega
      by_cases hlt1 : k < l1.length
      · have hl1 : (k : Int) < (l1.length : Int) := by omega
        obtain ⟨ad, rfl, hx⟩ := at_int' HR0.out HW.out.below k (by omega) (by omega)
        obtain ⟨ad2, rfl, hy⟩ := at_int' HR1.out HW.out.below k (by omega) (by omega)
        simp only [Int.toNat_natCast] at hx hy
        have HS := Aside0.mk (cmp_at l0 l1 k hlt hlt1)
        obtain ⟨a, ha⟩ : ∃ a, rd l0 k = a := ⟨_, rfl⟩
        obtain ⟨b, hb⟩ : ∃ b, rd l1 k = b := ⟨_, rfl⟩
        rw [ha] at hx HS
        rw [hb] at hy HS
        clear ha hb
        by_cases h1 : a < b
        · have hd : decide (a < b) = true := decide_eq_true h1
          have H1 := Aside0.mk h1
          clear h1
          go_wp2
          go_quiet (fail)
          go_wp2
          go_ret
          exact ⟨by rw [← HE.out, HS.out, if_pos H1.out]; rfl, HW.out.step _⟩
        · have hd : decide (a < b) = false := decide_eq_false h1
          have H1 := Aside0.mk h1
          clear h1
          by_cases h2 : b < a
          · have hd2 : decide (b < a) = true := decide_eq_true h2
            have H2 := Aside0.mk h2
            clear h2
            go_wp2
            go_quiet (fail)
            go_wp2
            go_quiet (fail)
            go_wp2
            go_ret
            exact ⟨by rw [← HE.out, HS.out, if_neg (by have := H1.out; omega), if_pos H2.out]; rfl, (HW.out.step _).step _⟩
          · have hd2 : decide (b < a) = false := decide_eq_false h2
            have H2 := Aside0.mk h2
            clear h2
            go_wp2
            go_quiet (fail)
            go_wp2
            go_quiet (fail)
            go_wp2
            go_roundw
            case rel => exact ⟨k + 1, by omega, by omega, by go_num, ⟨HW.out.step _⟩, ⟨by rw [← HE.out, HS.out, if_neg (by have := H1.out; omega), if_neg (by have := H2.out; omega)]⟩⟩
            case measure => simp [intOf]; omega
      · have hb : decide ((k : Int) < (l1.length : Int)) = false := decide_eq_false (by omega)
        have hb1 : (l1.length : Int) < (l0.length : Int) := by omega
        go_wp2
        go_ret
        exact ⟨by rw [← HE.out, List.drop_of_length_le (l := l1) (by omega), drop_rd l0 k hlt]; rfl, HW.out⟩
    · have hb : decide ((k : Int) < (l0.length : Int)) = false := decide_eq_false (by omega)
      by_cases hlt1 : l0.length < l1.length
      · go_wp2
        go_ret
        exact ⟨by rw [← HE.out, List.drop_of_length_le (l := l0) (by omega), drop_rd l1 k (by omega)]; rfl, HW.out⟩
      · go_wp2
        go_ret
        exact ⟨by rw [← HE.out, List.drop_of_length_le (l := l0) (by omega), List.drop_of_length_le (l := l1) (by omega)]; rfl, HW.out⟩

theorem refcmp_q {A0 : Option Addr} {c0 : Nat} {l0 : List Int} {A1 : Option Addr} {c1 : Nat} {l1 : List Int} {w : World} (n : Nat)
    (hr0 : Kd.C KI w A0 l0.length l0) (hr1 : Kd.C KI w A1 l1.length l1) (hm0 : l0.length ≤ 1000000000000) (hm1 : l1.length ≤ 1000000000000) :
    Calls Tryz.prog 55 #[.slice A0 l0.length c0, .slice A1 l1.length c1] (w.drewN n) fun e w' => e = .returned (.int .i64 (Pl.cmp l0 l1)) ∧ ∃ m, w' = (w.drewN n).drewN m :=
  (refcmp_any (Kd.C_drewN hr0 n) (Kd.C_drewN hr1 n) hm0 hm1).mono fun _ _ h => ⟨h.1, h.2.out⟩

set_option maxHeartbeats 2000000 in
set_option maxRecDepth 100000 in
theorem refcopy_any {A0 : Option Addr} {c0 : Nat} {l0 : List Int} {w : World} (hr0 : Kd.C KI w A0 l0.length l0) (hm : l0.length ≤ 1000000000000) :
    Calls Tryz.prog 65 #[.slice A0 l0.length c0] w fun e w' => ∃ v, e = .returned v ∧ Kd.R KI 3 w' w.heap.size AnyB v l0 ∧ Below w.heap.size w w' := by
  have HR0 := Aside0.mk hr0
  clear hr0
  go_enter Tryz.func65, Tryz.ntmps65
  go_wp2_with (at_builtin; refine app_ints w.heap.size rfl (.tmp 3) (.tmp 4) rfl (.slice (some ⟨w.heap.size, 0, none⟩) 0 0) [] l0 A0 _ rfl rfl ⟨R_lit0 w⟩ (Kd.C_below HR0.out (below_alloc (Below.refl _ _) _)) ⟨below_alloc (Below.refl _ _) _⟩ (by simp) (by simp only [List.length_nil]; omega) ?_; intro v1 w1 HV HB1 HG1)
  go_ret
  exact ⟨_, rfl, by have h := HV.out; rwa [List.nil_append] at h, HB1.out⟩

set_option maxHeartbeats 2000000 in
set_option maxRecDepth 100000 in
theorem refin_any {A0 : Option Addr} {c0 : Nat} {l0 : List Int} {n : Int} {w : World} (hr0 : Kd.C KI w A0 l0.length l0) (b : Bool) (hb : decide (n ∈ l0) = b) :
    Calls Tryz.prog 102 #[.slice A0 l0.length c0, .int .i64 n] w fun e w' => e = .returned (.bool b) ∧ Drawn0 w w' := by
  have HR0 := Aside0.mk hr0
  have HBB := Aside0.mk hb
  have hm0 : l0.length ≤ 9223372036854775807 := hr0.2.1
  clear hr0 hb
  go_enter Tryz.func102, Tryz.ntmps102
  go_wp2
  go_loopw [5] (fun i wr => ∃ k : Nat, k ≤ l0.length ∧ i = .int .i64 k ∧ Aside0 (Drawn0 w wr) ∧ Aside0 (n ∉ l0.take k)) (fun i _ => l0.length - (intOf i).toNat)
  case atStart => exact ⟨0, Nat.zero_le _, rfl, ⟨Drawn0.refl w⟩, ⟨by simp⟩⟩
  case round =>
    obtain ⟨k, hk, rfl, HW, HE⟩ := hrel
    by_cases hlt : k < l0.length
    · have hl0 : (k : Int) < (l0.length : Int) := by omega
      obtain ⟨ad, rfl, hx⟩ := at_int' HR0.out HW.out.below k (by omega) (by omega)
      simp only [Int.toNat_natCast] at hx
      have HG := Aside0.mk (rd_get l0 k hlt)
      by_cases he : rd l0 k = n
      · have hq : (rd l0 k == n) = true := by simp [he]
        have HE2 := Aside0.mk he
        clear he
        go_wp2
        go_ret
        refine ⟨?_, HW.out⟩
        rw [← HBB.out, decide_eq_true (by rw [← HE2.out, HG.out]; exact List.getElem_mem hlt)]; rfl
      · have hq : (rd l0 k == n) = false := by simp [he]
        have HE2 := Aside0.mk he
        clear he
        go_wp2
        go_roundw
        case rel =>
          refine ⟨k + 1, by omega, by go_num, ⟨HW.out⟩, ⟨fun hm => ?_⟩⟩
          rw [take_succ_rd _ _ hlt] at hm
          rcases List.mem_append.1 hm with h | h
          · exact HE.out h
          · exact HE2.out (List.mem_singleton.1 h).symm
        case measure => simp [intOf]; omega
    · go_wp2
      go_ret
      rw [List.take_of_length_le (by omega)] at HE
      exact ⟨by rw [← HBB.out, decide_eq_false HE.out]; rfl, HW.out⟩
end Go.Proofs.YtlmkgghpaaadhaaGreatDoor.G

/- The document's functions of layers 1 and 2, walked: Without, Meet, Unite, Pick, Place. -/
set_option linter.unusedVariables false
set_option linter.unusedSimpArgs false
namespace Go.Proofs.YtlmkgghpaaadhaaGreatDoor.G
open Go.RowKit Go.Proofs.YtlmkgghpaaadhaaGreatDoorW.PrintWords Go.Proofs.YtlmkgghpaaadhaaGreatDoorW.PrintLast Go.Proofs.YtlmkgghpaaadhaaGreatDoorW.PrintMore

/-- append of one number, and where the new row lies. -/
theorem app_intA {ops : Array Oper} {rest : List Oper} {o : Oper} {a : Act} {Q : Exit → Act → World → Prop} {w W : World} (base : Nat) (hgd : o.guard = none) (s x : Operand) (ho : o.op = .call { callee := .builtin .append, args := #[s, x], argTypes := #[22, 22] })
    (v : Value) (xs : List Int) (y : Int) (hs : a.eval s = v) (hx : a.eval x = .slice (some ⟨W.heap.size, 0, none⟩) 1 1)
    (HO : Aside0 (Kd.R KI 3 W base AnyB v xs)) (HB : Aside0 (Below base w W)) (hbase : base ≤ W.heap.size) (hl : xs.length < 17592186044416)
    (h : ∀ v1 w1, Aside0 (Kd.R KI 3 w1 base AnyB v1 (xs ++ [y])) → Aside0 (Below base w w1) → Aside0 (W.grownBy w1 v.ownBlock ∧ (v1.ownBlock = v.ownBlock ∨ ∃ b, v1.ownBlock = some b ∧ W.heap.size ≤ b)) → wpList Tryz.prog ops Q rest (a.put o.dst v1) w1) :
    wpList Tryz.prog ops Q (o :: rest) a (W.alloc (.cells #[.int .i64 y] 3)) :=
  Kd.R_append KI base hgd s x 22 3 (.int .i64 0) 8 ho Tryz.underlying22 infoInt rfl (by decide) (by omega) v xs y [.int .i64 y] AnyB (fun _ => False) hs hx rfl (fun _ hk => hk.elim) (fun _ _ => trivial)
    HO.out HB.out hbase (by omega) (fun v1 w1 ho hb hg hat => h v1 w1 ⟨ho⟩ ⟨hb⟩ ⟨hg, hat⟩)
def zip2 : List Int → List Int → List Int
  | [], m => m
  | l, [] => l
  | x :: l, y :: m => if x < y then x :: zip2 l (y :: m) else y :: zip2 (x :: l) m
  termination_by l m => l.length + m.length
theorem zip2_nil (l : List Int) : zip2 l [] = l := by cases l <;> unfold zip2 <;> rfl
theorem nil_zip2 (l : List Int) : zip2 [] l = l := by unfold zip2; rfl
theorem zip2_cons (x y : Int) (l m : List Int) : zip2 (x :: l) (y :: m) = if x < y then x :: zip2 l (y :: m) else y :: zip2 (x :: l) m := by rw [zip2]
theorem mem_zip2 (x : Int) (l m : List Int) : x ∈ zip2 l m ↔ x ∈ l ∨ x ∈ m := by
  induction l, m using zip2.induct with
  | case1 m => rw [nil_zip2]; simp
  | case2 l h => rw [zip2_nil]; simp
  | case3 a l b m h ih => rw [zip2_cons, if_pos h, List.mem_cons, ih]; simp only [List.mem_cons, or_assoc]
  | case4 a l b m h ih => rw [zip2_cons, if_neg h, List.mem_cons, ih]; simp only [List.mem_cons]; exact or_left_comm
theorem zip2_rise (l m : List Int) (hl : Rise l) (hm : Rise m) (hd : ∀ x ∈ l, x ∉ m) : Rise (zip2 l m) := by
  induction l, m using zip2.induct with
  | case1 m => rw [nil_zip2]; exact hm
  | case2 l h => rw [zip2_nil]; exact hl
  | case3 a l b m h ih =>
    obtain ⟨h1, h2⟩ := List.pairwise_cons.1 hl
    obtain ⟨h3, h4⟩ := List.pairwise_cons.1 hm
    rw [zip2_cons, if_pos h]
    refine List.pairwise_cons.2 ⟨fun y hy => ?_, ih h2 hm (fun x hx => hd x (List.mem_cons_of_mem _ hx))⟩
    rcases (mem_zip2 y l (b :: m)).1 hy with hy | hy
    · exact h1 y hy
    · rcases List.mem_cons.1 hy with e | hy
      · omega
      · have := h3 y hy; omega
  | case4 a l b m h ih =>
    obtain ⟨h1, h2⟩ := List.pairwise_cons.1 hl
    obtain ⟨h3, h4⟩ := List.pairwise_cons.1 hm
    have hne : a ≠ b := fun e => hd a List.mem_cons_self (e ▸ List.mem_cons_self)
    rw [zip2_cons, if_neg h]
    refine List.pairwise_cons.2 ⟨fun y hy => ?_, ih hl h4 (fun x hx hx' => hd x hx (List.mem_cons_of_mem _ hx'))⟩
    rcases (mem_zip2 y (a :: l) m).1 hy with hy | hy
    · rcases List.mem_cons.1 hy with e | hy
      · omega
      · have := h1 y hy; omega
    · exact h3 y hy

set_option maxHeartbeats 2000000 in
set_option maxRecDepth 100000 in
theorem refwithout_any {A0 : Option Addr} {c0 : Nat} {l : List Int} {A1 : Option Addr} {c1 : Nat} {m : List Int} {w : World}
    (hr0 : Kd.C KI w A0 l.length l) (hr1 : Kd.C KI w A1 m.length m) (hl : l.length ≤ 1000000000000) {r : List Int} (hr : (l.filter fun a => decide (a ∉ m)) = r) :
    Calls Tryz.prog 86 #[.slice A0 l.length c0, .slice A1 m.length c1] w fun e w' => ∃ v, e = .returned v ∧ Kd.R KI 3 w' w.heap.size AnyB v r ∧ Below w.heap.size w w' := by
  have HR0 := Aside0.mk hr0
  have HR1 := Aside0.mk hr1
  have HRR := Aside0.mk hr
  clear hr0 hr1 hr
  go_enter Tryz.func86, Tryz.ntmps86
  go_wp2
  go_loopw [5, 6] (fun v i wr => ∃ k : Nat, k ≤ l.length ∧ i = .int .i64 k ∧ Aside0 (Kd.R KI 3 wr w.heap.size AnyB v ((l.take k).filter fun a => decide (a ∉ m))) ∧ Aside0 (Below w.heap.size w wr)) (fun _ i _ => l.length - (intOf i).toNat)
  case atStart => exact ⟨0, Nat.zero_le _, rfl, ⟨R_lit0 w⟩, ⟨below_alloc (Below.refl _ _) _⟩⟩
  case round =>
    obtain ⟨k, hk, rfl, HO, HB⟩ := hrel
    by_cases hlt : k < l.length
    · obtain ⟨ad, rfl, hx⟩ := at_int' HR0.out HB.out k (by omega) (by omega)
      simp only [Int.toNat_natCast] at hx
      have HT := Aside0.mk (take_succ_rd l k hlt)
      have hkl : (k : Int) < (l.length : Int) := by omega
      have hpl : ((l.take k).filter fun a => decide (a ∉ m)).length ≤ k := Nat.le_trans (List.length_filter_le _ _) (by rw [List.length_take]; omega)
      obtain ⟨L, hL⟩ : ∃ L, ((l.take k).filter fun a => decide (a ∉ m)) = L := ⟨_, rfl⟩
      rw [hL] at HO hpl
      have HLL := Aside0.mk hL
      clear hL
      by_cases hin : rd l k ∈ m
      · have HIN := Aside0.mk (show decide (rd l k ∈ m) = true from decide_eq_true hin)
        have HI2 := Aside0.mk hin
        clear hin
        go_wp2_with (first | (go_at_call 102; refine (refin_any (Kd.C_below HR1.out HB.out) _ HIN.out).mono ?_; rintro e w3 ⟨rfl, hd3⟩; have HB3 := Aside0.mk (HB.out.trans (hd3.below.mono HB.out.size)); have hx3 := (hd3.below.cell (World.block_lt_of_cell? wr _ hx)).trans hx; have HO3 := Aside0.mk (Kd.R_below HO.out hd3.below); clear hd3))
        go_roundw
        case rel => exact ⟨k + 1, by omega, by go_num, ⟨by rw [HT.out, List.filter_append, HLL.out, List.filter_cons_of_neg (by simpa using HI2.out)]; simpa using HO3.out⟩, HB3⟩
        case measure => simp [intOf]; omega
      · have HIN := Aside0.mk (show decide (rd l k ∈ m) = false from decide_eq_false hin)
        have HI2 := Aside0.mk hin
        clear hin
        go_wp2_with (first | (go_at_call 102; refine (refin_any (Kd.C_below HR1.out HB.out) _ HIN.out).mono ?_; rintro e w3 ⟨rfl, hd3⟩; have HB3 := Aside0.mk (HB.out.trans (hd3.below.mono HB.out.size)); have hx3 := (hd3.below.cell (World.block_lt_of_cell? wr _ hx)).trans hx; have HO3 := Aside0.mk (Kd.R_below HO.out hd3.below); clear hd3) | (at_builtin; refine app_int (w := w) w.heap.size rfl (.tmp 23) (.tmp 28) rfl _ _ (rd l k) rfl rfl HO3 HB3 HB3.out.size (by omega) ?_; intro v1 w4 HO4 HB4 HG4))
        go_roundw
        case rel => exact ⟨k + 1, by omega, by go_num, ⟨by rw [HT.out, List.filter_append, HLL.out, List.filter_cons_of_pos (by simpa using HI2.out)]; exact HO4.out⟩, HB4⟩
        case measure => simp [intOf]; omega
    · go_wp2
      go_ret
      rw [List.take_of_length_le (by omega), HRR.out] at HO
      exact ⟨_, rfl, HO.out, HB.out⟩

set_option maxHeartbeats 4000000 in
set_option maxRecDepth 100000 in
theorem refunite_any {A0 : Option Addr} {c0 : Nat} {l : List Int} {A1 : Option Addr} {c1 : Nat} {m : List Int} {w : World}
    (hr0 : Kd.C KI w A0 l.length l) (hr1 : Kd.C KI w A1 m.length m) (hl : l.length ≤ 100000000000) (hm : m.length ≤ 100000000000) {r : List Int} (hr : zip2 l (m.filter fun a => decide (a ∉ l)) = r) :
    Calls Tryz.prog 64 #[.slice A0 l.length c0, .slice A1 m.length c1] w fun e w' => ∃ v, e = .returned v ∧ Kd.R KI 3 w' w.heap.size AnyB v r ∧ Below w.heap.size w w' := by
  have HR0 := Aside0.mk hr0
  have HR1 := Aside0.mk hr1
  obtain ⟨n, hn⟩ : ∃ n, (m.filter fun a => decide (a ∉ l)) = n := ⟨_, rfl⟩
  have hnl : n.length ≤ 100000000000 := by rw [← hn]; exact Nat.le_trans (List.length_filter_le _ _) hm
  rw [hn] at hr
  have HN := Aside0.mk hn
  have HRR := Aside0.mk hr
  clear hr0 hr1 hr hn
  go_enter Tryz.func64, Tryz.ntmps64
  go_wp2_with (go_at_call 86; refine (refwithout_any (Kd.C_below HR1.out (below_alloc (Below.refl _ _) _)) (Kd.C_below HR0.out (below_alloc (Below.refl _ _) _)) (by omega) HN.out).mono ?_; rintro e w2 ⟨v, rfl, hv, hb⟩; obtain ⟨A2, c2, rfl, _, hC⟩ := Kd.R_reads hv; have HBB := Aside0.mk (below_then (below_alloc (Below.refl w.heap.size w) _) (by simp) hb); have HO0 := Aside0.mk (Kd.R_below (R_lit0 w) hb); have HN2 := Aside0.mk (Kd.F_mono (ok' := fun k => AnyB k ∧ some k ≠ (Value.slice (some ⟨w.heap.size, 0, none⟩) 0 0).ownBlock) (Kd.N_F (Kd.R_N (Kd.R_mono (Kd.R_bound hv) (fun k hk => hk.2.1)))) (fun k hk => ⟨trivial, fun e => by have h1 : w.heap.size + 1 ≤ k := (by simpa using hk); have e' := Option.some.inj (show some k = some w.heap.size from e); omega⟩)); clear hv hb hC)
  go_loopw [5, 7, 8] (fun v i j wr => ∃ (p q : Nat) (o : List Int), p ≤ l.length ∧ q ≤ n.length ∧ o.length ≤ p + q ∧ i = .int .i64 p ∧ j = .int .i64 q ∧ Aside0 (Kd.R KI 3 wr w.heap.size AnyB v o) ∧ Aside0 (o ++ zip2 (l.drop p) (n.drop q) = r) ∧ Aside0 (Below w.heap.size w wr) ∧ Aside0 (Kd.F KI wr (fun k => AnyB k ∧ some k ≠ v.ownBlock) A2 n.length n)) (fun _ i j _ => (l.length - (intOf i).toNat) + (n.length - (intOf j).toNat))
  case atStart => exact ⟨0, 0, [], Nat.zero_le _, Nat.zero_le _, Nat.zero_le _, rfl, rfl, HO0, HRR, HBB, HN2⟩
  case round =>
    clear HO0 HRR HBB HN2
    obtain ⟨p, q, o, hp, hq, ho, rfl, rfl, HO, HE, HB, HC⟩ := hrel
    by_cases hlp : p < l.length
    · have hp1 : (p : Int) < (l.length : Int) := by omega
      have hp2 : decide ((p : Int) < (l.length : Int)) = true := decide_eq_true hp1
      obtain ⟨ad, rfl, hx⟩ := at_int' HR0.out HB.out p (by omega) (by omega)
      simp only [Int.toNat_natCast] at hx
      obtain ⟨a, ha⟩ : ∃ a, rd l p = a := ⟨_, rfl⟩
      have HDa := Aside0.mk (show l.drop p = a :: l.drop (p + 1) from by rw [← ha]; exact drop_rd l p hlp)
      rw [ha] at hx
      clear ha
      by_cases hlq : q < n.length
      · have hq1 : (q : Int) < (n.length : Int) := by omega
        have hq2 : ((q : Int) == (n.length : Int)) = false := by simp; omega
        obtain ⟨ad2, rfl, hy⟩ := Kd.at_int (Kd.F_now HC.out) q (by omega) (by omega)
        simp only [Int.toNat_natCast] at hy
        obtain ⟨b, hb⟩ : ∃ b, rd n q = b := ⟨_, rfl⟩
        have HDb := Aside0.mk (show n.drop q = b :: n.drop (q + 1) from by rw [← hb]; exact drop_rd n q hlq)
        rw [hb] at hy
        clear hb
        by_cases hab : a < b
        · have hd : decide (a < b) = true := decide_eq_true hab
          have HAB := Aside0.mk hab
          clear hab
          go_wp2
          go_quiet (fail)
          replace HB := Aside0.mk (below_then HB.out HB.out.size (pw_below_drewN (Below.refl _ _) nq))
          replace HO := Aside0.mk (Kd.R_below HO.out (pw_below_drewN (Below.refl _ _) nq))
          replace HC := Aside0.mk (Kd.F_drewN HC.out nq)
          have hx' := ((pw_below_drewN (Below.refl wr.heap.size wr) nq).cell (World.block_lt_of_cell? wr _ hx)).trans hx
          clear hx
          generalize wr.drewN nq = wd at *
          go_wp2_with (at_builtin; refine app_intA (w := w) w.heap.size rfl (.tmp 44) (.tmp 49) rfl _ _ a rfl rfl HO HB HB.out.size (by omega) ?_; intro v1 w4 HO4 HB4 HG4)
          go_roundw
          case rel => exact ⟨p + 1, q, o ++ [a], by omega, by omega, by simp; omega, by go_num, rfl, HO4, ⟨by rw [← HE.out, HDa.out, HDb.out, zip2_cons, if_pos HAB.out]; simp⟩, HB4, ⟨Kd.F_after HC.out HG4.out.1 HG4.out.2⟩⟩
          case measure => simp [intOf]; omega
        · have hd : decide (a < b) = false := decide_eq_false hab
          have HAB := Aside0.mk hab
          clear hab
          go_wp2
          go_quiet (fail)
          replace HB := Aside0.mk (below_then HB.out HB.out.size (pw_below_drewN (Below.refl _ _) nq))
          replace HO := Aside0.mk (Kd.R_below HO.out (pw_below_drewN (Below.refl _ _) nq))
          replace HC := Aside0.mk (Kd.F_drewN HC.out nq)
          have hy' := ((pw_below_drewN (Below.refl wr.heap.size wr) nq).cell (World.block_lt_of_cell? wr _ hy)).trans hy
          clear hy
          generalize wr.drewN nq = wd at *
          go_wp2_with (at_builtin; refine app_intA (w := w) w.heap.size rfl (.tmp 53) (.tmp 58) rfl _ _ b rfl rfl HO HB HB.out.size (by omega) ?_; intro v1 w4 HO4 HB4 HG4)
          go_roundw
          case rel => exact ⟨p, q + 1, o ++ [b], by omega, by omega, by simp; omega, rfl, by go_num, HO4, ⟨by rw [← HE.out, HDa.out, HDb.out, zip2_cons, if_neg (by have := HAB.out; omega)]; simp⟩, HB4, ⟨Kd.F_after HC.out HG4.out.1 HG4.out.2⟩⟩
          case measure => simp [intOf]; omega
      · have hq2 : ((q : Int) == (n.length : Int)) = true := by simp; omega
        go_wp2
        go_quiet (fail)
        replace HB := Aside0.mk (below_then HB.out HB.out.size (pw_below_drewN (Below.refl _ _) nq))
        replace HO := Aside0.mk (Kd.R_below HO.out (pw_below_drewN (Below.refl _ _) nq))
        replace HC := Aside0.mk (Kd.F_drewN HC.out nq)
        have hx' := ((pw_below_drewN (Below.refl wr.heap.size wr) nq).cell (World.block_lt_of_cell? wr _ hx)).trans hx
        clear hx
        generalize wr.drewN nq = wd at *
        go_wp2_with (at_builtin; refine app_intA (w := w) w.heap.size rfl (.tmp 44) (.tmp 49) rfl _ _ a rfl rfl HO HB HB.out.size (by omega) ?_; intro v1 w4 HO4 HB4 HG4)
        go_roundw
        case rel => exact ⟨p + 1, q, o ++ [a], by omega, by omega, by simp; omega, by go_num, rfl, HO4, ⟨by rw [← HE.out, HDa.out, List.drop_of_length_le (l := n) (by omega), zip2_nil, zip2_nil]; simp⟩, HB4, ⟨Kd.F_after HC.out HG4.out.1 HG4.out.2⟩⟩
        case measure => simp [intOf]; omega
    · have hp2 : decide ((p : Int) < (l.length : Int)) = false := decide_eq_false (by omega)
      by_cases hlq : q < n.length
      · have hq1 : (q : Int) < (n.length : Int) := by omega
        have hq3 : decide ((q : Int) < (n.length : Int)) = true := decide_eq_true hq1
        have hq2 : ((q : Int) == (n.length : Int)) = false := by simp; omega
        obtain ⟨ad2, rfl, hy⟩ := Kd.at_int (Kd.F_now HC.out) q (by omega) (by omega)
        simp only [Int.toNat_natCast] at hy
        obtain ⟨b, hb⟩ : ∃ b, rd n q = b := ⟨_, rfl⟩
        have HDb := Aside0.mk (show n.drop q = b :: n.drop (q + 1) from by rw [← hb]; exact drop_rd n q hlq)
        rw [hb] at hy
        clear hb
        go_wp2
        go_quiet (fail)
        replace HB := Aside0.mk (below_then HB.out HB.out.size (pw_below_drewN (Below.refl _ _) nq))
        replace HO := Aside0.mk (Kd.R_below HO.out (pw_below_drewN (Below.refl _ _) nq))
        replace HC := Aside0.mk (Kd.F_drewN HC.out nq)
        have hy' := ((pw_below_drewN (Below.refl wr.heap.size wr) nq).cell (World.block_lt_of_cell? wr _ hy)).trans hy
        clear hy
        generalize wr.drewN nq = wd at *
        go_wp2_with (at_builtin; refine app_intA (w := w) w.heap.size rfl (.tmp 53) (.tmp 58) rfl _ _ b rfl rfl HO HB HB.out.size (by omega) ?_; intro v1 w4 HO4 HB4 HG4)
        go_roundw
        case rel => exact ⟨p, q + 1, o ++ [b], by omega, by omega, by simp; omega, rfl, by go_num, HO4, ⟨by rw [← HE.out, HDb.out, List.drop_of_length_le (l := l) (by omega), nil_zip2, nil_zip2]; simp⟩, HB4, ⟨Kd.F_after HC.out HG4.out.1 HG4.out.2⟩⟩
        case measure => simp [intOf]; omega
      · have hq3 : decide ((q : Int) < (n.length : Int)) = false := decide_eq_false (by omega)
        go_wp2
        go_ret
        refine ⟨_, rfl, ?_, HB.out⟩
        have h := HE.out
        rw [List.drop_of_length_le (l := l) (by omega), List.drop_of_length_le (l := n) (by omega), nil_zip2, List.append_nil] at h
        rw [← h]; exact HO.out

set_option maxHeartbeats 2000000 in
set_option maxRecDepth 100000 in
theorem refplace_any {A0 : Option Addr} {c0 : Nat} {l0 : List Int} {n : Int} {w : World} (hr0 : Kd.C KI w A0 l0.length l0) {r : Int} (hr : idx l0 n = r) :
    Calls Tryz.prog 80 #[.slice A0 l0.length c0, .int .i64 n] w fun e w' => e = .returned (.int .i64 r) ∧ w = w' := by
  have HR0 := Aside0.mk hr0
  have HRR := Aside0.mk hr
  have hm0 : l0.length ≤ 9223372036854775807 := hr0.2.1
  clear hr0 hr
  go_enter Tryz.func80, Tryz.ntmps80
  go_wp2
  go_loop [5] (fun i => ∃ k : Nat, k ≤ l0.length ∧ i = .int .i64 k ∧ Aside0 (n ∉ l0.take k)) (fun i => l0.length - (intOf i).toNat)
  case atStart => exact ⟨0, Nat.zero_le _, rfl, ⟨by simp⟩⟩
  case round =>
    obtain ⟨k, hk, rfl, HE⟩ := hrel
    by_cases hlt : k < l0.length
    · have hl0 : (k : Int) < (l0.length : Int) := by omega
      obtain ⟨ad, rfl, hx⟩ := Kd.at_int HR0.out k (by omega) (by omega)
      simp only [Int.toNat_natCast] at hx
      have HG := Aside0.mk (rd_get l0 k hlt)
      by_cases he : rd l0 k = n
      · have hq : (rd l0 k == n) = true := by simp [he]
        have HE2 := Aside0.mk he
        clear he
        go_wp2
        go_ret
        refine ⟨?_, rfl⟩
        have hid : idx l0 n = (k : Int) := by
          have hmem : n ∈ l0 := by rw [← HE2.out, HG.out]; exact List.getElem_mem hlt
          have he : n ∉ l0.take k := HE.out
          rw [idx, if_pos hmem]
          have h1 : l0.idxOf n = k := by
            have h2 := List.idxOf_append (l₁ := l0.take k) (l₂ := l0.drop k) (a := n)
            rw [List.take_append_drop, if_neg he, List.drop_eq_getElem_cons hlt, ← HG.out, HE2.out, List.idxOf_cons_self, List.length_take] at h2
            omega
          rw [h1]
        rw [← HRR.out, hid]; rfl
      · have hq : (rd l0 k == n) = false := by simp [he]
        have HE2 := Aside0.mk he
        clear he
        go_wp2
        go_round
        case rel =>
          refine ⟨k + 1, by omega, by go_num, ⟨fun hm => ?_⟩⟩
          rw [take_succ_rd _ _ hlt] at hm
          rcases List.mem_append.1 hm with h | h
          · exact HE.out h
          · exact HE2.out (List.mem_singleton.1 h).symm
        case measure => simp [intOf]; omega
    · go_wp2
      go_ret
      rw [List.take_of_length_le (by omega)] at HE
      exact ⟨by rw [← HRR.out, idx, if_neg HE.out]; rfl, rfl⟩
end Go.Proofs.YtlmkgghpaaadhaaGreatDoor.G

/- The document's Sort, walked. -/
set_option linter.unusedVariables false
set_option linter.unusedSimpArgs false
namespace Go.Proofs.YtlmkgghpaaadhaaGreatDoor.G
open Go.RowKit Go.Proofs.YtlmkgghpaaadhaaGreatDoorW.PrintWords Go.Proofs.YtlmkgghpaaadhaaGreatDoorW.PrintLast Go.Proofs.YtlmkgghpaaadhaaGreatDoorW.PrintMore

theorem ins_at (x : List Int) : ∀ (L : List (List Int)) (j : Nat), (∀ y ∈ L.take j, Pl.lt y x) → Pl.ins x L = L.take j ++ Pl.ins x (L.drop j)
  | L, 0, _ => by simp
  | [], j + 1, _ => by simp
  | y :: L, j + 1, h => by
    have hy : Pl.lt y x := h y (by simp)
    have ih := ins_at x L j (fun z hz => h z (by simp [hz]))
    have h1 : ¬ Pl.lt x y := Pl.lt_asymm hy
    have h2 : ¬ x = y := fun e => Pl.lt_irrefl y (e ▸ hy)
    simp only [Pl.ins, if_neg h1, if_neg h2, List.take_succ_cons, List.drop_succ_cons, List.cons_append, ih]
theorem ins_eq {x y : List Int} {L : List (List Int)} {j : Nat} (h : ∀ z ∈ L.take j, Pl.lt z x) (hj : j < L.length) (hy : L.getD j [] = y) (hc : Pl.cmp y x = 0) : Pl.ins x L = L := by
  have he := (Pl.cmp_eq _ _).1 hc
  have hd := List.drop_eq_getElem_cons hj
  have hg : L[j] = x := by rw [← he, ← hy, List.getD_eq_getElem?_getD, List.getElem?_eq_getElem hj]; rfl
  rw [ins_at x L j h, hd, hg]
  have h0 : Pl.ins x (x :: L.drop (j + 1)) = x :: L.drop (j + 1) := by
    simp only [Pl.ins]
    rw [if_neg (Pl.lt_irrefl x)]; simp
  rw [h0, ← hg, ← hd, List.take_append_drop]
theorem ins_put {x : List Int} {L : List (List Int)} {j : Nat} (h : ∀ z ∈ L.take j, Pl.lt z x) (hj : ∀ hj : j < L.length, Pl.lt x L[j]) : Pl.ins x L = L.take j ++ [x] ++ L.drop j := by
  rw [ins_at x L j h]
  by_cases hl : j < L.length
  · rw [List.drop_eq_getElem_cons hl]
    simp only [Pl.ins]
    rw [if_pos (hj hl)]; simp
  · rw [List.drop_of_length_le (by omega)]; simp [Pl.ins]
theorem sortU_take_succ (L : List (List Int)) (i : Nat) (hi : i < L.length) : Pl.sortU (L.take (i + 1)) = Pl.ins (L.getD i []) (Pl.sortU (L.take i)) := by
  unfold Pl.sortU
  rw [List.take_succ_eq_append_getElem hi, List.foldl_append, List.getD_eq_getElem?_getD, List.getElem?_eq_getElem hi]; rfl
theorem N_litB (W : World) (ok : Nat → Prop) (hok : ok W.heap.size) : Kd.N KL 22 (W.alloc (.cells #[] 22)) W.heap.size ok (.slice (some ⟨W.heap.size, 0, none⟩) 0 0) [] :=
  Kd.R_N ⟨fun k hk => by have : k = W.heap.size := by simpa [Value.ownBlock] using hk.symm
                         rw [this]; exact hok, [], World.ownsRow_made W #[] 0 (Nat.le_refl _) (Nat.zero_le _) (by simp), Reps.none _ _⟩
theorem FK_rowB {W : World} {v : Value} {x : List Int} {base : Nat} (h : Kd.R KI 3 W base AnyB v x) : Kd.FK KL W (fun k => base ≤ k ∧ k < W.heap.size) x [v] := by
  have h1 : Kd.R KI 3 W base (fun k => base ≤ k ∧ k < W.heap.size) v x := Kd.R_mono (Kd.R_bound h) (fun k hk => ⟨hk.2.1, hk.2.2.1⟩)
  obtain ⟨A, c, rfl, hl, _⟩ := Kd.R_reads h1
  exact Kd.FK_slice_mk hl (Kd.N_F (Kd.R_N h1))
/-- What is left of a row of rows behind its first j. -/
theorem cutN {base : Nat} {ok : Nat → Prop} (A : Option Addr) (c : Nat) (xs : List (List Int)) (j : Nat) (hj : j ≤ xs.length) (hc : xs.length ≤ c) :
    ∃ A' c', (∀ W : World, (Instr.slice 23 (.slice A xs.length c) (some (.int .i64 (j : Int))) none none).run Tryz.prog W = .ok (.slice A' (xs.length - j) c') W) ∧ (∀ w : World, Kd.N KL 22 w base ok (.slice A xs.length c) xs → Kd.F KL w ok A' (xs.length - j) (xs.drop j)) := by
  obtain ⟨i0, hi, _, hz1, _⟩ := info_parts infoInts
  refine ⟨if c = j then A else A.map (·.add (j * KL.sz)), c - j, fun W => ?_, fun w h => ?_⟩
  · have h := cut_from (P := Tryz.prog) 23 22 .i64 Tryz.underlying23 hi 1 hz1 A xs.length c (j : Int) (by omega) (by omega) W
    rw [Int.toNat_natCast] at h
    exact h
  · have h := Kd.F_cut (m := j) (c := c) (Kd.N_F h) hj hc
    rwa [List.length_drop] at h

set_option maxHeartbeats 4000000 in
set_option maxRecDepth 100000 in
theorem refsort_any {A0 : Option Addr} {c0 : Nat} {L : List (List Int)} {w : World} (hr0 : Kd.C KL w A0 L.length L) (hm : L.length ≤ 1000000000000) (hx : ∀ x ∈ L, x.length ≤ 1000000000000) {r : List (List Int)} (hr : Pl.sortU L = r) :
    Calls Tryz.prog 34 #[.slice A0 L.length c0] w fun e w' => ∃ v, e = .returned v ∧ Kd.N KL 22 w' w.heap.size (fun k => w.heap.size ≤ k) v r ∧ Below w.heap.size w w' := by
  have HR0 := Aside0.mk hr0
  have HRR := Aside0.mk hr
  have HX := Aside0.mk hx
  clear hr0 hr hx
  go_enter Tryz.func34, Tryz.ntmps34
  go_wp2
  go_loopw [3, 4] (fun v i wr => ∃ k : Nat, k ≤ L.length ∧ i = .int .i64 k ∧ Aside0 (Kd.N KL 22 wr w.heap.size (fun k => w.heap.size ≤ k) v (Pl.sortU (L.take k))) ∧ Aside0 (Below w.heap.size w wr)) (fun _ i _ => L.length - (intOf i).toNat)
  case atStart => exact ⟨0, Nat.zero_le _, rfl, ⟨N_litB w _ (Nat.le_refl _)⟩, ⟨below_alloc (Below.refl _ _) _⟩⟩
  case round =>
    obtain ⟨i, hi, rfl, HO, HB⟩ := hrel
    by_cases hlt : i < L.length
    · obtain ⟨ad, Bx, cx, rfl, hxc, _, hC⟩ := at_row HR0.out HB.out i hlt
      have hxl : (L.getD i []).length ≤ 1000000000000 := by
        refine HX.out _ ?_
        rw [List.getD_eq_getElem?_getD, List.getElem?_eq_getElem hlt]; exact List.getElem_mem hlt
      have HNX := Aside0.mk (sortU_take_succ L i hlt)
      obtain ⟨x, hxe⟩ : ∃ x, x = L.getD i [] := ⟨_, rfl⟩
      rw [← hxe] at hxc hC hxl HNX
      have HC := Aside0.mk hC
      have hSl : (Pl.sortU (L.take i)).length ≤ i := Nat.le_trans (Pl.sortU_length_le _) (by rw [List.length_take]; omega)
      have hSx : ∀ y ∈ Pl.sortU (L.take i), y.length ≤ 1000000000000 := fun y hy => HX.out y (List.mem_of_mem_take (Pl.mem_sortU.1 hy))
      obtain ⟨S, hS⟩ : ∃ S, Pl.sortU (L.take i) = S := ⟨_, rfl⟩
      rw [hS] at HO HNX hSl hSx
      have HSX := Aside0.mk hSx
      have hil : (i : Int) < (L.length : Int) := by omega
      obtain ⟨A3, c3, rfl⟩ := Kd.N_slice HO.out
      clear hC hxe hS hSx
      go_wp2
      rename World => wo
      go_loopw [5] (fun j wr => ∃ q : Nat, q ≤ S.length ∧ j = .int .i64 q ∧ Aside0 (∀ z ∈ S.take q, Pl.lt z x) ∧ Aside0 (Drawn0 wo wr)) (fun j _ => S.length - (intOf j).toNat)
      case atStart => exact ⟨0, Nat.zero_le _, rfl, ⟨by simp⟩, ⟨Drawn0.refl _⟩⟩
      case round =>
        obtain ⟨j, hj, rfl, HLT, HD⟩ := hrel
        have hxc1 := (HD.out.below.cell (World.block_lt_of_cell? wo _ hxc)).trans hxc
        have HC1 := Aside0.mk (Kd.C_below HC.out HD.out.below)
        have HO1 := Aside0.mk (Kd.N_below HO.out HD.out.below)
        have HB1 := Aside0.mk (below_then HB.out HB.out.size HD.out.below)
        have hfin : ∀ (n : Nat), Below wo.heap.size wo (wr.drewN n) := fun n => (HD.out.step n).below
        have HFIN := Aside0.mk hfin
        clear hfin
        by_cases hjl : j < S.length
        · have hjb : decide ((j : Int) < (S.length : Int)) = true := decide_eq_true (by omega)
          obtain ⟨A, c, e, _, hNC⟩ := Kd.N_reads HO1.out
          obtain ⟨e1, e2, e3⟩ := Value.slice.inj e
          rw [← e1] at hNC
          clear e e1 e2 e3
          obtain ⟨ad3, By, cy, rfl, hy, _, hyC⟩ := at_row hNC (Below.refl _ _) j hjl
          have hyl : (S.getD j []).length ≤ 1000000000000 := by
            refine HSX.out _ ?_
            rw [List.getD_eq_getElem?_getD, List.getElem?_eq_getElem hjl]; exact List.getElem_mem hjl
          obtain ⟨y, hye⟩ : ∃ y, S.getD j [] = y := ⟨_, rfl⟩
          rw [hye] at hy hyC hyl
          have HYC := Aside0.mk hyC
          have HYE := Aside0.mk hye
          have hj1 : (j : Int) < (S.length : Int) := by omega
          clear hNC hyC hye
          by_cases hc : Pl.cmp y x < 0
          · have hd : decide (Pl.cmp y x < 0) = true := decide_eq_true hc
            have HCC := Aside0.mk hc
            clear hc
            go_wp2
            go_quiet ((go_at_call 55; exact Calls.quiet_of (refcmp_q _ HYC.out HC1.out hyl hxl)))
            go_wp2
            go_roundw
            case rel =>
              refine ⟨j + 1, by omega, by go_num, ⟨fun z hz => ?_⟩, ⟨HD.out.step _⟩⟩
              rw [List.take_succ_eq_append_getElem hjl] at hz
              rcases List.mem_append.1 hz with h | h
              · exact HLT.out z h
              · rw [List.mem_singleton.1 h]
                have he := HYE.out
                rw [List.getD_eq_getElem?_getD, List.getElem?_eq_getElem hjl] at he
                rw [show S[j] = y from he]; exact (Pl.cmp_neg _ _).1 HCC.out
            case measure => simp [intOf]; omega
          · have hcn : Pl.cmp y x = 0 ∨ 0 < Pl.cmp y x := by have := Pl.cmp_range y x; omega
            rcases hcn with hc0 | hc0
            · have hd : decide (Pl.cmp y x < 0) = false := decide_eq_false hc
              have hd2 : (Pl.cmp y x == 0) = true := by simp [hc0]
              have HCC := Aside0.mk hc0
              clear hc hc0
              go_wp2
              go_quiet ((go_at_call 55; exact Calls.quiet_of (refcmp_q _ HYC.out HC1.out hyl hxl)))
              have hdd := pw_below_drewN (Below.refl wr.heap.size wr) nq
              replace hxc1 := (hdd.cell (World.block_lt_of_cell? wr _ hxc1)).trans hxc1
              replace hy := (hdd.cell (World.block_lt_of_cell? wr _ hy)).trans hy
              replace HYC := Aside0.mk (Kd.C_below HYC.out hdd)
              replace HC1 := Aside0.mk (Kd.C_below HC1.out hdd)
              replace HO1 := Aside0.mk (Kd.N_below HO1.out hdd)
              replace HB1 := Aside0.mk (below_then HB1.out HB1.out.size hdd)
              clear hdd HD
              generalize wr.drewN nq = wd at *
              go_wp2
              go_quiet ((go_at_call 55; exact Calls.quiet_of (refcmp_q _ HYC.out HC1.out hyl hxl)))
              go_wp2
              go_roundw
              case rel =>
                refine ⟨i + 1, by omega, by go_num, ⟨?_⟩, ⟨?_⟩⟩
                · rw [HNX.out, ins_eq HLT.out hjl HYE.out HCC.out]
                  exact Kd.N_drewN HO1.out _
                · exact pw_below_drewN HB1.out _
              case measure => simp [intOf]; omega
            · have hd : decide (Pl.cmp y x < 0) = false := decide_eq_false hc
              have hd2 : (Pl.cmp y x == 0) = false := by simp; omega
              have HPUT := Aside0.mk (ins_put (x := x) HLT.out (j := j) (fun h => by
                have he := HYE.out
                rw [List.getD_eq_getElem?_getD, List.getElem?_eq_getElem h] at he
                rw [show S[j] = y from he]; exact (Pl.cmp_pos _ _).1 hc0))
              clear hc hc0
              go_wp2
              go_quiet ((go_at_call 55; exact Calls.quiet_of (refcmp_q _ HYC.out HC1.out hyl hxl)))
              have hdd := pw_below_drewN (Below.refl wr.heap.size wr) nq
              replace hxc1 := (hdd.cell (World.block_lt_of_cell? wr _ hxc1)).trans hxc1
              replace hy := (hdd.cell (World.block_lt_of_cell? wr _ hy)).trans hy
              replace HYC := Aside0.mk (Kd.C_below HYC.out hdd)
              replace HC1 := Aside0.mk (Kd.C_below HC1.out hdd)
              replace HO1 := Aside0.mk (Kd.N_below HO1.out hdd)
              replace HB1 := Aside0.mk (below_then HB1.out HB1.out.size hdd)
              clear hdd HD
              generalize wr.drewN nq = wd at *
              go_wp2
              go_quiet ((go_at_call 55; exact Calls.quiet_of (refcmp_q _ HYC.out HC1.out hyl hxl)))
              have hdd := pw_below_drewN (Below.refl wd.heap.size wd) nq
              replace hxc1 := (hdd.cell (World.block_lt_of_cell? wd _ hxc1)).trans hxc1
              replace hy := (hdd.cell (World.block_lt_of_cell? wd _ hy)).trans hy
              replace HYC := Aside0.mk (Kd.C_below HYC.out hdd)
              replace HC1 := Aside0.mk (Kd.C_below HC1.out hdd)
              replace HO1 := Aside0.mk (Kd.N_below HO1.out hdd)
              replace HB1 := Aside0.mk (below_then HB1.out HB1.out.size hdd)
              clear hdd
              generalize wd.drewN nq = we at *
              clear hy HYC HYE hyl hd hd2
              obtain ⟨A4, c4, hrun, hcut⟩ := cutN (base := w.heap.size) (ok := fun k => w.heap.size ≤ k) (some ad3) c3 S j hj (Kd.N_reads' HO.out).2.1
              have HCUT := Aside0.mk (hcut we HO1.out)
              have hdl : (S.drop j).length = S.length - j := List.length_drop
              have htl : (S.take j).length = j := by rw [List.length_take]; omega
              have HTK := Aside0.mk (Kd.N_F (Kd.N_take HO1.out hj))
              have HDL := Aside0.mk (And.intro hdl htl)
              have hjn : (0 : Int) ≤ (j : Int) := by omega
              have hjs : (j : Int) ≤ (S.length : Int) := by omega
              have hjc : (j : Int) ≤ (c3 : Int) := by have := (Kd.N_reads' HO.out).2.1; omega
              clear hcut hdl htl hjb
              go_wp2_with fail
              have HSD := Aside0.mk (show we.drew.cell? (ad.add i) = some (.slice Bx x.length cx) ∧ Below we.heap.size we we.drew from ⟨hxc1, below_drew (Below.refl we.heap.size we)⟩)
              have HSA := Aside0.mk (show ∀ o, (we.alloc o).drew.cell? (ad.add i) = some (.slice Bx x.length cx) ∧ Below we.heap.size we (we.alloc o).drew from fun o => ⟨((below_alloc (Below.refl we.heap.size we) o).cell (World.block_lt_of_cell? we _ HSD.out.1)).trans HSD.out.1, below_drew (below_alloc (Below.refl _ _) o)⟩)
              clear hxc1
              go_region_held3 (fun W => W.cell? (ad.add i) = some (.slice Bx x.length cx) ∧ Below we.heap.size we W)
                (first | with_reducible exact HS7.out | with_reducible exact HS6.out | with_reducible exact HS5.out _ | with_reducible exact HS4.out | with_reducible exact HS2.out | with_reducible exact HSD.out | with_reducible exact HSA.out _)
                (first
                  | (refine Kd.N_append_rows_step KL (w0 := we) we.heap.size (by rfl) (.tmp 58) (.tmp 61) 23 22 (.slice none 0 0) 24 rfl Tryz.underlying23 infoInts rfl (by decide) (by decide) _ (S.take j ++ [x]) (S.drop j) A4 _ _ (fun k => w.heap.size ≤ k) (fun k => w.heap.size ≤ k ∧ k < we.heap.size) rfl rfl HN6.out.1 (Kd.F_step (Kd.F_bound HCUT.out) (fun k hk hlt => HN6.out.2.block k hk.2)) (fun k hk => ⟨hk.1, fun e => by have e' := Kd.N_base HN6.out.1 k e.symm; have := hk.2; omega⟩) (fun k hk => by have h1 := HB1.out.size; have h2 := HN6.out.2.size; omega) HN6.out.2 HN6.out.2.size (by have h1 := HDL.out.1; have h2 := HDL.out.2; simp only [List.length_append, List.length_singleton]; omega) ?_; intro v7 w7 hN7 hB7 hg7 hat7; have HN7 := Aside0.mk (And.intro hN7 hB7); have HS7 := Aside0.mk (And.intro ((hB7.cell (World.block_lt_of_cell? we _ HSD.out.1)).trans HSD.out.1) hB7); clear hN7 hB7 hg7 hat7)
                  | (refine Kd.N_append_step KL (w0 := we) we.heap.size (by rfl) (.tmp 51) (.tmp 57) 23 22 (.slice none 0 0) 24 rfl Tryz.underlying23 infoInts rfl (by decide) (by decide) _ (S.take j) x [.slice A5 x.length c5] (fun k => w.heap.size ≤ k) (fun k => w2.heap.size ≤ k ∧ k < w5.heap.size) rfl rfl (FK_rowB HV5.out.1) (fun k hk => ⟨by have h1 := HB1.out.size; have h2 := HN2.out.2.size; have := hk.1; omega, fun e => by have e' := Kd.N_lt HN2.out.1 k e.symm; have := hk.1; omega⟩) (fun k hk => by have h1 := HB1.out.size; have h2 := HN2.out.2.size; have h3 := HV5.out.2.size; omega) (Kd.N_below HN2.out.1 HV5.out.2) (below_then HN2.out.2 HN2.out.2.size HV5.out.2) (Nat.le_trans HN2.out.2.size HV5.out.2.size) (by have h2 := HDL.out.2; omega) ?_; intro v6 w6 hN6 hB6 hg6 hat6; have HN6 := Aside0.mk (And.intro hN6 hB6); have HS6 := Aside0.mk (And.intro ((hB6.cell (World.block_lt_of_cell? we _ HSD.out.1)).trans HSD.out.1) hB6); clear hN6 hB6 hg6 hat6)
                  | (go_at_call 65; refine (refcopy_any (Kd.C_below HC1.out HN2.out.2) hxl).mono ?_; rintro e w5 ⟨v5, rfl, hv5, hb5⟩; obtain ⟨A5, c5, rfl, _, _⟩ := Kd.R_reads hv5; have HV5 := Aside0.mk (And.intro hv5 hb5); have hB5 := below_then HN2.out.2 HN2.out.2.size hb5; have HS4 := Aside0.mk (And.intro ((hB5.cell (World.block_lt_of_cell? we _ HSD.out.1)).trans HSD.out.1) hB5); have HS5 := Aside0.mk (show ∀ o, (w5.alloc o).cell? (ad.add i) = some (.slice Bx x.length cx) ∧ Below we.heap.size we (w5.alloc o) from fun o => ⟨((below_alloc (Below.refl w5.heap.size w5) o).cell (World.block_lt_of_cell? w5 _ HS4.out.1)).trans HS4.out.1, below_alloc HS4.out.2 o⟩); clear hv5 hb5 hB5)
                  | (refine Kd.N_append_rows_step KL (w0 := we) we.heap.size (by rfl) (.tmp 47) (.tmp 50) 23 22 (.slice none 0 0) 24 rfl Tryz.underlying23 infoInts rfl (by decide) (by decide) _ [] (S.take j) (some ad3) _ _ (fun k => w.heap.size ≤ k) (fun k => w.heap.size ≤ k ∧ k < we.heap.size) rfl rfl (Kd.N_drew (N_litB we (fun k => w.heap.size ≤ k) (by have := HB1.out.size; exact this))) (Kd.F_below (Kd.F_bound HTK.out) (below_drew (below_alloc (Below.refl we.heap.size we) _))) (fun k hk => ⟨hk.1, fun e => by have e' := Option.some.inj (show some k = some we.heap.size from e); have := hk.2; omega⟩) (fun k hk => by have h1 := HB1.out.size; have h2 : (we.alloc (.cells #[] 22)).heap.size ≤ k := hk; rw [World.size_alloc] at h2; omega) (below_drew (below_alloc (Below.refl we.heap.size we) _)) (by show we.heap.size ≤ (we.alloc _).heap.size; simp) (by simp; omega) ?_; intro v2 w2 hN2 hB2 hg2 hat2; have HN2 := Aside0.mk (And.intro (by simpa using hN2) hB2); have HS2 := Aside0.mk (And.intro ((hB2.cell (World.block_lt_of_cell? we _ HSD.out.1)).trans HSD.out.1) hB2); clear hN2 hB2 hg2 hat2))
              go_wp2
              go_roundw
              case rel => exact ⟨i + 1, by omega, by go_num, ⟨by rw [HNX.out, HPUT.out]; exact Kd.N_lower HN7.out.1 HB1.out.size⟩, ⟨HB1.out.trans (HN7.out.2.mono HB1.out.size)⟩⟩
              case measure => simp [intOf]; omega
        · have hjb : decide ((j : Int) < (S.length : Int)) = false := decide_eq_false (by omega)
          have HPUT := Aside0.mk (ins_put (x := x) HLT.out (j := j) (fun h => absurd h hjl))
          go_wp2
          go_quiet (fail)
          have hdd := pw_below_drewN (Below.refl wr.heap.size wr) nq
          replace hxc1 := (hdd.cell (World.block_lt_of_cell? wr _ hxc1)).trans hxc1
          replace HC1 := Aside0.mk (Kd.C_below HC1.out hdd)
          replace HO1 := Aside0.mk (Kd.N_below HO1.out hdd)
          replace HB1 := Aside0.mk (below_then HB1.out HB1.out.size hdd)
          clear hdd HD
          generalize wr.drewN nq = wd at *
          go_wp2
          go_quiet (fail)
          have hdd := pw_below_drewN (Below.refl wd.heap.size wd) nq
          replace hxc1 := (hdd.cell (World.block_lt_of_cell? wd _ hxc1)).trans hxc1
          replace HC1 := Aside0.mk (Kd.C_below HC1.out hdd)
          replace HO1 := Aside0.mk (Kd.N_below HO1.out hdd)
          replace HB1 := Aside0.mk (below_then HB1.out HB1.out.size hdd)
          clear hdd
          generalize wd.drewN nq = we at *
          obtain ⟨A4, c4, hrun, hcut⟩ := cutN (base := w.heap.size) (ok := fun k => w.heap.size ≤ k) A3 c3 S j hj (Kd.N_reads' HO.out).2.1
          have HCUT := Aside0.mk (hcut we HO1.out)
          have hdl : (S.drop j).length = S.length - j := List.length_drop
          have htl : (S.take j).length = j := by rw [List.length_take]; omega
          have HTK := Aside0.mk (Kd.N_F (Kd.N_take HO1.out hj))
          have HDL := Aside0.mk (And.intro hdl htl)
          have hjn : (0 : Int) ≤ (j : Int) := by omega
          have hjs : (j : Int) ≤ (S.length : Int) := by omega
          have hjc : (j : Int) ≤ (c3 : Int) := by have := (Kd.N_reads' HO.out).2.1; omega
          clear hcut hdl htl hjb
          go_wp2_with fail
          have HSD := Aside0.mk (show we.drew.cell? (ad.add i) = some (.slice Bx x.length cx) ∧ Below we.heap.size we we.drew from ⟨hxc1, below_drew (Below.refl we.heap.size we)⟩)
          have HSA := Aside0.mk (show ∀ o, (we.alloc o).drew.cell? (ad.add i) = some (.slice Bx x.length cx) ∧ Below we.heap.size we (we.alloc o).drew from fun o => ⟨((below_alloc (Below.refl we.heap.size we) o).cell (World.block_lt_of_cell? we _ HSD.out.1)).trans HSD.out.1, below_drew (below_alloc (Below.refl _ _) o)⟩)
          clear hxc1
          go_region_held3 (fun W => W.cell? (ad.add i) = some (.slice Bx x.length cx) ∧ Below we.heap.size we W)
            (first | with_reducible exact HS7.out | with_reducible exact HS6.out | with_reducible exact HS5.out _ | with_reducible exact HS4.out | with_reducible exact HS2.out | with_reducible exact HSD.out | with_reducible exact HSA.out _)
            (first
              | (refine Kd.N_append_rows_step KL (w0 := we) we.heap.size (by rfl) (.tmp 58) (.tmp 61) 23 22 (.slice none 0 0) 24 rfl Tryz.underlying23 infoInts rfl (by decide) (by decide) _ (S.take j ++ [x]) (S.drop j) A4 _ _ (fun k => w.heap.size ≤ k) (fun k => w.heap.size ≤ k ∧ k < we.heap.size) rfl rfl HN6.out.1 (Kd.F_step (Kd.F_bound HCUT.out) (fun k hk hlt => HN6.out.2.block k hk.2)) (fun k hk => ⟨hk.1, fun e => by have e' := Kd.N_base HN6.out.1 k e.symm; have := hk.2; omega⟩) (fun k hk => by have h1 := HB1.out.size; have h2 := HN6.out.2.size; omega) HN6.out.2 HN6.out.2.size (by have h1 := HDL.out.1; have h2 := HDL.out.2; simp only [List.length_append, List.length_singleton]; omega) ?_; intro v7 w7 hN7 hB7 hg7 hat7; have HN7 := Aside0.mk (And.intro hN7 hB7); have HS7 := Aside0.mk (And.intro ((hB7.cell (World.block_lt_of_cell? we _ HSD.out.1)).trans HSD.out.1) hB7); clear hN7 hB7 hg7 hat7)
              | (refine Kd.N_append_step KL (w0 := we) we.heap.size (by rfl) (.tmp 51) (.tmp 57) 23 22 (.slice none 0 0) 24 rfl Tryz.underlying23 infoInts rfl (by decide) (by decide) _ (S.take j) x [.slice A5 x.length c5] (fun k => w.heap.size ≤ k) (fun k => w2.heap.size ≤ k ∧ k < w5.heap.size) rfl rfl (FK_rowB HV5.out.1) (fun k hk => ⟨by have h1 := HB1.out.size; have h2 := HN2.out.2.size; have := hk.1; omega, fun e => by have e' := Kd.N_lt HN2.out.1 k e.symm; have := hk.1; omega⟩) (fun k hk => by have h1 := HB1.out.size; have h2 := HN2.out.2.size; have h3 := HV5.out.2.size; omega) (Kd.N_below HN2.out.1 HV5.out.2) (below_then HN2.out.2 HN2.out.2.size HV5.out.2) (Nat.le_trans HN2.out.2.size HV5.out.2.size) (by have h2 := HDL.out.2; omega) ?_; intro v6 w6 hN6 hB6 hg6 hat6; have HN6 := Aside0.mk (And.intro hN6 hB6); have HS6 := Aside0.mk (And.intro ((hB6.cell (World.block_lt_of_cell? we _ HSD.out.1)).trans HSD.out.1) hB6); clear hN6 hB6 hg6 hat6)
              | (go_at_call 65; refine (refcopy_any (Kd.C_below HC1.out HN2.out.2) hxl).mono ?_; rintro e w5 ⟨v5, rfl, hv5, hb5⟩; obtain ⟨A5, c5, rfl, _, _⟩ := Kd.R_reads hv5; have HV5 := Aside0.mk (And.intro hv5 hb5); have hB5 := below_then HN2.out.2 HN2.out.2.size hb5; have HS4 := Aside0.mk (And.intro ((hB5.cell (World.block_lt_of_cell? we _ HSD.out.1)).trans HSD.out.1) hB5); have HS5 := Aside0.mk (show ∀ o, (w5.alloc o).cell? (ad.add i) = some (.slice Bx x.length cx) ∧ Below we.heap.size we (w5.alloc o) from fun o => ⟨((below_alloc (Below.refl w5.heap.size w5) o).cell (World.block_lt_of_cell? w5 _ HS4.out.1)).trans HS4.out.1, below_alloc HS4.out.2 o⟩); clear hv5 hb5 hB5)
              | (refine Kd.N_append_rows_step KL (w0 := we) we.heap.size (by rfl) (.tmp 47) (.tmp 50) 23 22 (.slice none 0 0) 24 rfl Tryz.underlying23 infoInts rfl (by decide) (by decide) _ [] (S.take j) A3 _ _ (fun k => w.heap.size ≤ k) (fun k => w.heap.size ≤ k ∧ k < we.heap.size) rfl rfl (Kd.N_drew (N_litB we (fun k => w.heap.size ≤ k) (by have := HB1.out.size; exact this))) (Kd.F_below (Kd.F_bound HTK.out) (below_drew (below_alloc (Below.refl we.heap.size we) _))) (fun k hk => ⟨hk.1, fun e => by have e' := Option.some.inj (show some k = some we.heap.size from e); have := hk.2; omega⟩) (fun k hk => by have h1 := HB1.out.size; have h2 : (we.alloc (.cells #[] 22)).heap.size ≤ k := hk; rw [World.size_alloc] at h2; omega) (below_drew (below_alloc (Below.refl we.heap.size we) _)) (by show we.heap.size ≤ (we.alloc _).heap.size; simp) (by simp; omega) ?_; intro v2 w2 hN2 hB2 hg2 hat2; have HN2 := Aside0.mk (And.intro (by simpa using hN2) hB2); have HS2 := Aside0.mk (And.intro ((hB2.cell (World.block_lt_of_cell? we _ HSD.out.1)).trans HSD.out.1) hB2); clear hN2 hB2 hg2 hat2))
          go_wp2
          go_roundw
          case rel => exact ⟨i + 1, by omega, by go_num, ⟨by rw [HNX.out, HPUT.out]; exact Kd.N_lower HN7.out.1 HB1.out.size⟩, ⟨HB1.out.trans (HN7.out.2.mono HB1.out.size)⟩⟩
          case measure => simp [intOf]; omega
    · go_wp2
      go_ret
      rw [List.take_of_length_le (by omega), HRR.out] at HO
      exact ⟨_, rfl, HO.out, HB.out⟩
end Go.Proofs.YtlmkgghpaaadhaaGreatDoor.G

/- The document's functions of layers 2 and 3 over rows, walked: Cut, Fit, Both. -/
set_option linter.unusedVariables false
set_option linter.unusedSimpArgs false
namespace Go.Proofs.YtlmkgghpaaadhaaGreatDoor.G
open Go.RowKit Go.Proofs.YtlmkgghpaaadhaaGreatDoorW.PrintWords Go.Proofs.YtlmkgghpaaadhaaGreatDoorW.PrintLast Go.Proofs.YtlmkgghpaaadhaaGreatDoorW.PrintMore

theorem map_take_rd (f : Int → Int) (l : List Int) (k : Nat) (h : k < l.length) : (l.take (k + 1)).map f = (l.take k).map f ++ [f (rd l k)] := by rw [take_succ_rd l k h, List.map_append]; rfl
theorem map_take_getD {β : Type} (f : List Int → β) (L : List (List Int)) (k : Nat) (h : k < L.length) : (L.take (k + 1)).map f = (L.take k).map f ++ [f (L.getD k [])] := by
  rw [List.take_succ_eq_append_getElem h, List.map_append, List.getD_eq_getElem?_getD, List.getElem?_eq_getElem h]; rfl
theorem idx_le (l : List Int) (x : Int) : idx l x < (l.length : Int) ∧ (0 ≤ idx l x ↔ x ∈ l) := by
  unfold idx
  by_cases h : x ∈ l
  · rw [if_pos h]; have := List.idxOf_lt_length_of_mem h; exact ⟨by omega, ⟨fun _ => h, fun _ => by omega⟩⟩
  · rw [if_neg h]; exact ⟨by omega, ⟨fun h1 => by omega, fun h1 => absurd h1 h⟩⟩
theorem idx_nodup {sc : List Int} (h : sc.Nodup) (i : Nat) (hi : i < sc.length) : idx sc (rd sc (i : Int)) = (i : Int) := by
  rw [rd_get sc i hi, idx, if_pos (List.getElem_mem hi), h.idxOf_getElem i hi]
set_option maxHeartbeats 4000000 in
set_option maxRecDepth 100000 in
theorem reffit_any {A0 A1 A2 A3 : Option Addr} {c0 c1 c2 c3 : Nat} {s t u v : List Int} {w : World} (hr0 : Kd.C KI w A0 s.length s) (hr1 : Kd.C KI w A1 t.length t) (hr2 : Kd.C KI w A2 u.length u) (hr3 : Kd.C KI w A3 v.length v)
    (hs : s.Nodup) (ht : t.length = s.length) (hv : v.length = u.length) (b : Bool) (hb : fits s u t v = b) :
    Calls Tryz.prog 48 #[.slice A0 s.length c0, .slice A1 t.length c1, .slice A2 u.length c2, .slice A3 v.length c3] w fun e w' => e = .returned (.bool b) ∧ Drawn0 w w' := by
  have HR0 := Aside0.mk hr0
  have HR1 := Aside0.mk hr1
  have HR2 := Aside0.mk hr2
  have HR3 := Aside0.mk hr3
  have HBB := Aside0.mk hb
  have HS := Aside0.mk (And.intro hs (And.intro ht hv))
  have hm0 : s.length ≤ 9223372036854775807 := hr0.2.1
  clear hr0 hr1 hr2 hr3 hb hs ht hv
  go_enter Tryz.func48, Tryz.ntmps48
  go_wp2
  go_loopw [9] (fun i wr => ∃ k : Nat, k ≤ s.length ∧ i = .int .i64 k ∧ Aside0 (Drawn0 w wr) ∧ Aside0 (∀ j, j < k → rd s (j : Int) ∈ u → rd t (j : Int) = look u v (rd s (j : Int)))) (fun i _ => s.length - (intOf i).toNat)
  case atStart => exact ⟨0, Nat.zero_le _, rfl, ⟨Drawn0.refl w⟩, ⟨fun j hj => by omega⟩⟩
  case round =>
    obtain ⟨k, hk, rfl, HW, HE⟩ := hrel
    by_cases hlt : k < s.length
    · have hl0 : (k : Int) < (s.length : Int) := by omega
      have hl1 : (k : Int) < (t.length : Int) := by have := HS.out.2.1; omega
      obtain ⟨ad, rfl, hx⟩ := at_int' HR0.out HW.out.below k (by omega) (by omega)
      obtain ⟨ad1, rfl, hy⟩ := at_int' HR1.out HW.out.below k (by omega) (by omega)
      simp only [Int.toNat_natCast] at hx hy
      obtain ⟨a, ha⟩ : ∃ a, rd s k = a := ⟨_, rfl⟩
      obtain ⟨y, hye⟩ : ∃ y, rd t k = y := ⟨_, rfl⟩
      rw [ha] at hx
      rw [hye] at hy
      have HAY := Aside0.mk (And.intro ha hye)
      have hi := idx_le u a
      have hpl : idx u a < (v.length : Int) := by have := HS.out.2.2; omega
      have HIN := Aside0.mk hi.2
      obtain ⟨p, hp⟩ : ∃ p, idx u a = p := ⟨_, rfl⟩
      rw [hp] at hpl HIN
      have HP := Aside0.mk hp
      clear ha hye hi hp
      by_cases h0 : 0 ≤ p
      · have h0d : decide (0 ≤ p) = true := decide_eq_true h0
        obtain ⟨ad3, rfl, hz⟩ := at_int' HR3.out HW.out.below p h0 hpl
        obtain ⟨z, hze⟩ : ∃ z, rd v p = z := ⟨_, rfl⟩
        rw [hze] at hz
        have HZ := Aside0.mk hze
        clear hze
        by_cases hzy : z = y
        · have hq : (z != y) = false := by simp [hzy]
          have HZY := Aside0.mk hzy
          clear hzy
          go_wp2_with (go_at_call 80; refine (refplace_any (Kd.C_below HR2.out HW.out.below) HP.out).mono ?_; rintro e w3 ⟨rfl, rfl⟩)
          go_quiet (fail)
          go_wp2
          go_roundw
          case rel =>
            refine ⟨k + 1, by omega, by go_num, ⟨HW.out.step _⟩, ⟨fun j hj hm => ?_⟩⟩
            by_cases hjk : j < k
            · exact HE.out j hjk hm
            · have e : j = k := by omega
              subst e
              rw [HAY.out.1, HAY.out.2, look, HP.out, HZ.out, HZY.out]
          case measure => simp [intOf]; omega
        · have hq : (z != y) = true := by simp [hzy]
          have HZY := Aside0.mk hzy
          clear hzy
          go_wp2_with (go_at_call 80; refine (refplace_any (Kd.C_below HR2.out HW.out.below) HP.out).mono ?_; rintro e w3 ⟨rfl, rfl⟩)
          go_quiet (fail)
          go_wp2
          go_ret
          refine ⟨?_, HW.out.step _⟩
          rw [← HBB.out, fits, decide_eq_false]; rfl
          intro hall
          have hms : a ∈ s := by rw [← HAY.out.1, rd_get s k hlt]; exact List.getElem_mem hlt
          have h1 := hall a hms (HIN.out.1 h0)
          rw [look, look, HP.out, ← HAY.out.1, idx_nodup HS.out.1 k hlt, HAY.out.2, HZ.out] at h1
          exact HZY.out h1.symm
      · have h0d : decide (0 ≤ p) = false := decide_eq_false h0
        go_wp2_with (go_at_call 80; refine (refplace_any (Kd.C_below HR2.out HW.out.below) HP.out).mono ?_; rintro e w3 ⟨rfl, rfl⟩)
        go_quiet (fail)
        go_wp2
        go_roundw
        case rel =>
          refine ⟨k + 1, by omega, by go_num, ⟨HW.out.step _⟩, ⟨fun j hj hm => ?_⟩⟩
          by_cases hjk : j < k
          · exact HE.out j hjk hm
          · have e : j = k := by omega
            subst e
            rw [HAY.out.1] at hm
            exact absurd (HIN.out.2 hm) (by omega)
        case measure => simp [intOf]; omega
    · go_wp2
      go_ret
      refine ⟨?_, HW.out⟩
      rw [← HBB.out, fits, decide_eq_true]; rfl
      intro a ha hau
      obtain ⟨j, hj, rfl⟩ := List.mem_iff_getElem.1 ha
      have h1 := HE.out j (by omega)
      rw [rd_get s j hj] at h1
      rw [look, ← rd_get s j hj, idx_nodup HS.out.1 j hj, rd_get s j hj]
      exact h1 hau
end Go.Proofs.YtlmkgghpaaadhaaGreatDoor.G
