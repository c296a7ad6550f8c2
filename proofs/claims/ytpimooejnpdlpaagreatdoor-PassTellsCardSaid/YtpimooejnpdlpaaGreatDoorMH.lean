/- Several texts of this claim in one. -/
import Derived.Test.YtpimooejnpdlpaaGreatDoorMC
import Derived.Test.YtpimooejnpdlpaaGreatDoorValues
import Derived.Test.YtpimooejnpdlpaaGreatDoorMD
/- place.Children, place.After: the search from the root, as the code does it; slices.Reverse of a row of the call's own. -/
set_option linter.unusedVariables false
set_option linter.unusedSimpArgs false
namespace Go.Proofs.YtpimooejnpdlpaaGreatDoor.G
open Go.RowKit Go.Sort Go.Shelf Go.Proofs.YtpimooejnpdlpaaGreatDoorW.PrintWords Go.Proofs.YtpimooejnpdlpaaGreatDoorW.PrintLast Go.Proofs.YtpimooejnpdlpaaGreatDoorW.PrintMore

/-- A row of the call's own, turned. -/
theorem reverseI_any (base : Nat) (v : Value) (zs : List Int) (w : World) (h : Kd.R KI 3 w base AnyB v zs) (hm : zs.length ≤ 1000000000) :
    Calls Tryz.prog 32 #[v] w fun e w' => e = .returned (.tuple #[]) ∧ Kd.R KI 3 w' base AnyB v zs.reverse ∧ Below base w w' := by
  rcases (R_ints h).2 with ⟨rfl, hz⟩ | ⟨g, cap, cur, rfl, hbase, hgb, r1, r2, r3, r4⟩
  · have hss : zs = [] := List.eq_nil_of_length_eq_zero hz
    subst hss
    refine (Tryz.slices_Reverse_int_empty none 0 w).mono ?_
    rintro e w' ⟨rfl, rfl⟩
    exact ⟨rfl, Kd.R_nil _ _ _ _ _, Below.refl _ _⟩
  · have hH : Holds (Value.int .i64) w g 0 zs.toArray := holds_of_block_i hgb (by simpa using r4)
    refine (Tryz.slices_Reverse_int g 0 cap zs w hH (by omega)).mono ?_
    rintro e w' ⟨rfl, q, rfl⟩
    have htl : zs.reverse.length = zs.length := List.length_reverse
    have hgrow : ∀ W : World, grow W #[] = W := fun W => by simp [grow]
    have ho := ownsRow_sorted_i (n := q) (os := #[]) htl hbase hgb r1 r2 r3
    have hg := grownBy_sorted_i (w := w) (g := g) (n := q) (os := #[]) zs.reverse.toArray
    rw [hgrow] at ho hg
    refine ⟨rfl, ?_, (Below.refl base w).grown hg (Nat.le_trans hbase (Nat.le_of_lt (Array.getElem?_eq_some_iff.1 hgb).1)) (fun j hj => by cases hj; exact hbase)⟩
    exact R_of_ints (by rw [htl]; exact ho)

/-- Those whose parent it is, of the first m. -/
def kidsTo (P : List Int) (i : Int) (m : Nat) : List Int := ((List.range m).filter fun (k : Nat) => decide (rd P (k : Int) = i ∧ 0 ≤ i)).map fun (k : Nat) => (k : Int)
def kidsI (P : List Int) (i : Int) : List Int := kidsTo P i P.length
theorem kidsTo_yes {P : List Int} {i : Int} {m : Nat} (h : rd P (m : Int) = i ∧ 0 ≤ i) : kidsTo P i (m + 1) = kidsTo P i m ++ [(m : Int)] := by
  unfold kidsTo
  rw [List.range_succ, List.filter_append, List.filter_cons_of_pos (by simpa using h), List.filter_nil, List.map_append]; rfl
theorem kidsTo_no {P : List Int} {i : Int} {m : Nat} (h : ¬ (rd P (m : Int) = i ∧ 0 ≤ i)) : kidsTo P i (m + 1) = kidsTo P i m := by
  unfold kidsTo
  rw [List.range_succ, List.filter_append, List.filter_cons_of_neg (by simpa using h), List.filter_nil, List.append_nil]
theorem kidsTo_len (P : List Int) (i : Int) (m : Nat) : (kidsTo P i m).length ≤ m := by
  unfold kidsTo
  rw [List.length_map]
  exact Nat.le_trans (List.length_filter_le _ _) (by simp)

set_option maxHeartbeats 1000000 in
set_option maxRecDepth 100000 in
theorem children_any (A0 : Option Addr) (n0 c0 : Nat) (A1 : Option Addr) (c1 : Nat) (P : List Int) (i : Int) (w : World) (hr : Kd.C KI w A1 P.length P) (hm : P.length ≤ 1000000) :
    Calls Tryz.prog 45 #[.agg #[.slice A0 n0 c0, .slice A1 P.length c1], .int .i64 i] w fun e w' => ∃ v, e = .returned v ∧ Kd.R KI 3 w' w.heap.size AnyB v (kidsI P i) ∧ Below w.heap.size w w' := by
  have HR := Aside0.mk hr
  clear hr
  have hbe := below_alloc (Below.refl w.heap.size w) (.cells #[.slice A0 n0 c0, .slice A1 P.length c1] 27)
  have hk := heap_alloc_new w (.cells #[.slice A0 n0 c0, .slice A1 P.length c1] 27)
  have HB0 := Aside0.mk hbe
  have q0 := blk2_c1 hk
  have HK := Aside0.mk hk
  clear hbe hk
  go_enter Tryz.func45, Tryz.ntmps45
  go_wp2
  generalize w.alloc (.cells #[.slice A0 n0 c0, .slice A1 P.length c1] 27) = W0 at *
  clear q0
  go_loopw [4, 10] (fun v j wr => ∃ k : Nat, k ≤ P.length ∧ j = .int .i64 k ∧ Aside0 (Kd.R KI 3 wr w.heap.size AnyB v (kidsTo P i k)) ∧ Aside0 (Below w.heap.size w wr)) (fun _ j _ => P.length - (intOf j).toNat)
  case atStart => exact ⟨0, Nat.zero_le _, rfl, ⟨Kd.R_nil _ _ _ _ _⟩, HB0⟩
  case round =>
    obtain ⟨k, hk, rfl, HO, HB⟩ := hrel
    by_cases hlt : k < P.length
    · obtain ⟨ad, rfl, hx⟩ := Kd.at_int HR.out k (by omega) (by omega)
      replace hx := (HB.out.cell (World.block_lt_of_cell? w _ hx)).trans hx
      simp only [Int.toNat_natCast] at hx
      have hkl : (k : Int) < (P.length : Int) := by omega
      have hyes := fun h => Aside0.mk (kidsTo_yes (P := P) (i := i) (m := k) h)
      have hno := fun h => Aside0.mk (kidsTo_no (P := P) (i := i) (m := k) h)
      have hl := kidsTo_len P i k
      by_cases he : rd P (k : Int) = i
      · by_cases h0 : 0 ≤ i
        · have hy := hyes ⟨he, h0⟩
          clear hyes hno
          have heb : ((rd P (k : Int)) == i) = true := by simpa using he
          have h0b : decide (0 ≤ i) = true := decide_eq_true h0
          go_wp2_with (at_builtin; refine app_int (w := w) w.heap.size rfl (.tmp 22) (.tmp 24) rfl _ (kidsTo P i k) (k : Int) rfl rfl HO HB HB.out.size (by omega) ?_; clear HO HB; intro v1 w2 HO HB HG)
          go_roundw
          case rel => exact ⟨k + 1, by omega, by go_num, by rw [hy.out]; exact HO, HB⟩
          case measure => simp [intOf]; omega
        · have hn := hno (fun h => h0 h.2)
          clear hyes hno
          have heb : ((rd P (k : Int)) == i) = true := by simpa using he
          have h0b : decide (0 ≤ i) = false := decide_eq_false h0
          go_wp2
          go_roundw
          case rel => exact ⟨k + 1, by omega, by go_num, by rw [hn.out]; exact HO, HB⟩
          case measure => simp [intOf]; omega
      · have hn := hno (fun h => he h.1)
        clear hyes hno
        have heb : ((rd P (k : Int)) == i) = false := by simpa using he
        go_wp2
        go_roundw
        case rel => exact ⟨k + 1, by omega, by go_num, by rw [hn.out]; exact HO, HB⟩
        case measure => simp [intOf]; omega
    · have hke : k = P.length := by omega
      subst hke
      go_wp2
      go_ret
      exact ⟨_, rfl, HO.out, HB.out⟩
end Go.Proofs.YtpimooejnpdlpaaGreatDoor.G

/- place.After: what the search from the root leaves, turned. -/
set_option linter.unusedVariables false
set_option linter.unusedSimpArgs false
namespace Go.Proofs.YtpimooejnpdlpaaGreatDoor.G
open Go.RowKit Go.Sort Go.Shelf Go.Proofs.YtpimooejnpdlpaaGreatDoorW.PrintWords Go.Proofs.YtpimooejnpdlpaaGreatDoorW.PrintLast Go.Proofs.YtpimooejnpdlpaaGreatDoorW.PrintMore

section
variable {ops : Array Oper} {rest : List Oper} {o : Oper} {a : Act} {Q : Exit → Act → World → Prop}
/-- append of one number; where the row stands behind it. -/
theorem app_int4 {w W : World} (base : Nat) (hgd : o.guard = none) (s x : Operand) (ho : o.op = .call { callee := .builtin .append, args := #[s, x], argTypes := #[25, 25] })
    (v : Value) (xs : List Int) (y : Int) (hs : a.eval s = v) (hx : a.eval x = .slice (some ⟨W.heap.size, 0, none⟩) 1 1)
    (HO : Kd.R KI 3 W base AnyB v xs) (HB : Below base w W) (hbase : base ≤ W.heap.size) (hl : xs.length < 17592186044416)
    (h : ∀ v1 w1, Kd.R KI 3 w1 base AnyB v1 (xs ++ [y]) → Below base w w1 → W.grownBy w1 v.ownBlock → (v1.ownBlock = v.ownBlock ∨ ∃ b, v1.ownBlock = some b ∧ W.heap.size ≤ b) → wpList Tryz.prog ops Q rest (a.put o.dst v1) w1) :
    wpList Tryz.prog ops Q (o :: rest) a (W.alloc (.cells #[.int .i64 y] 3)) :=
  Kd.R_append KI base hgd s x 25 3 (.int .i64 0) 8 ho Tryz.underlying25 infoInt rfl (by decide) (by omega) v xs y [.int .i64 y] AnyB (fun _ => False) hs hx rfl (fun _ hk => hk.elim) (fun _ _ => trivial)
    HO HB hbase (by omega) h
/-- append of a row of numbers; where the row stands behind it. -/
theorem app_ints4 {w W : World} (base : Nat) (hgd : o.guard = none) (s x : Operand) (ho : o.op = .call { callee := .builtin .append, args := #[s, x], argTypes := #[25, 25] })
    (v : Value) (xs ys : List Int) (A : Option Addr) (c : Nat) (hs : a.eval s = v) (hx : a.eval x = .slice A ys.length c)
    (HO : Kd.R KI 3 W base AnyB v xs) (HR : Kd.C KI W A ys.length ys) (HB : Below base w W) (hbase : base ≤ W.heap.size) (hl : xs.length + ys.length < 17592186044416)
    (h : ∀ v1 w1, Kd.R KI 3 w1 base AnyB v1 (xs ++ ys) → Below base w w1 → W.grownBy w1 v.ownBlock → (v1.ownBlock = v.ownBlock ∨ ∃ b, v1.ownBlock = some b ∧ W.heap.size ≤ b) → wpList Tryz.prog ops Q rest (a.put o.dst v1) w1) :
    wpList Tryz.prog ops Q (o :: rest) a W :=
  Kd.R_append_rows KI base hgd s x 25 3 (.int .i64 0) 8 ho Tryz.underlying25 infoInt rfl (by decide) (by omega) v xs ys A _ c AnyB (fun _ => False) hs hx HO HR (fun _ _ h => h) (fun _ hk => hk.elim) (fun _ _ => trivial)
    HB hbase (by omega) h
end

/-- Two rows of the call's own, apart; the tree's box. -/
structure TwoRows (w W : World) (cs : Array Value) (vo vs : Value) (out s : List Int) : Prop where
  o : Kd.R KI 3 W w.heap.size AnyB vo out
  s : Kd.R KI 3 W w.heap.size AnyB vs s
  ap : ∀ k, vo.ownBlock = some k → vs.ownBlock ≠ some k
  bel : Below w.heap.size w W
  blk : W.heap[w.heap.size]? = some (.cells cs 27 (0, 0))
theorem R_apart2 {W : World} {base : Nat} {v u : Value} {xs : List Int} (h : Kd.R KI 3 W base AnyB v xs) (ha : ∀ k, v.ownBlock = some k → u.ownBlock ≠ some k) {W1 : World} (hg : W.grownBy W1 u.ownBlock) : Kd.R KI 3 W1 base AnyB v xs :=
  Kd.R_mono (Kd.R_grown (ok := fun k => u.ownBlock ≠ some k) ⟨fun k hk => ha k hk, h.2⟩ hg (fun k hk e => hk e.symm)) (fun _ _ => trivial)
theorem R_lt {W : World} {base : Nat} {v : Value} {xs : List Int} (h : Kd.R KI 3 W base AnyB v xs) (k : Nat) (hk : v.ownBlock = some k) : k < W.heap.size := by
  obtain ⟨inner, ho⟩ := Kd.R_own h
  exact own_lt ho k hk
theorem TwoRows.pushO {w W w1 : World} {cs : Array Value} {vo vs v1 : Value} {out s xs : List Int} (h : TwoRows w W cs vo vs out s) (h1 : Kd.R KI 3 w1 w.heap.size AnyB v1 xs) (hb : Below w.heap.size w w1) (hg : W.grownBy w1 vo.ownBlock) (hat : v1.ownBlock = vo.ownBlock ∨ ∃ b, v1.ownBlock = some b ∧ W.heap.size ≤ b) : TwoRows w w1 cs v1 vs xs s := by
  refine ⟨h1, R_apart2 h.s (fun k hk e => h.ap k e hk) hg, fun k hk e => ?_, hb, (hg.block _ (Array.getElem?_eq_some_iff.1 h.blk).1 (Kd.R_ne h.o h.blk (by decide))).trans h.blk⟩
  rcases hat with hat | ⟨b, hb, hl⟩
  · exact h.ap k (hat ▸ hk) e
  · rw [hb] at hk
    have := R_lt h.s k e
    have := Option.some.inj hk
    omega
theorem TwoRows.pushS {w W w1 : World} {cs : Array Value} {vo vs v1 : Value} {out s xs : List Int} (h : TwoRows w W cs vo vs out s) (h1 : Kd.R KI 3 w1 w.heap.size AnyB v1 xs) (hb : Below w.heap.size w w1) (hg : W.grownBy w1 vs.ownBlock) (hat : v1.ownBlock = vs.ownBlock ∨ ∃ b, v1.ownBlock = some b ∧ W.heap.size ≤ b) : TwoRows w w1 cs vo v1 out xs := by
  refine ⟨R_apart2 h.o h.ap hg, h1, fun k hk e => ?_, hb, (hg.block _ (Array.getElem?_eq_some_iff.1 h.blk).1 (Kd.R_ne h.s h.blk (by decide))).trans h.blk⟩
  rcases hat with hat | ⟨b, hb, hl⟩
  · exact h.ap k hk (hat ▸ e)
  · rw [hb] at e
    have := R_lt h.o k hk
    have := Option.some.inj e
    omega
theorem TwoRows.below {w W W1 : World} {cs : Array Value} {vo vs : Value} {out s : List Int} (h : TwoRows w W cs vo vs out s) (hb : Below W.heap.size W W1) : TwoRows w W1 cs vo vs out s :=
  ⟨Kd.R_below h.o hb, Kd.R_below h.s hb, h.ap, below_then h.bel h.bel.size hb, (hb.block _ (Array.getElem?_eq_some_iff.1 h.blk).1).trans h.blk⟩
theorem TwoRows.take {w W : World} {cs : Array Value} {vo : Value} {A : Option Addr} {n c : Nat} {out s : List Int} (h : TwoRows w W cs vo (.slice A n c) out s) (m : Nat) (hm : m ≤ s.length) : TwoRows w W cs vo (.slice A m c) out (s.take m) :=
  ⟨h.o, Kd.R_take h.s hm, fun k hk e => h.ap k hk (by cases A <;> exact e), h.bel, h.blk⟩
theorem cut_n (A : Option Addr) (c m : Nat) (l : List Int) (hm : m ≤ l.length) (hc : l.length ≤ c) (W : World) : (Instr.slice 25 (.slice A l.length c) none (some (.int .i64 (m : Int))) none).run Tryz.prog W = .ok (.slice A m c) W := by
  obtain ⟨i0, hi, _, hz1, _⟩ := info_parts infoInt
  obtain ⟨h1, h2, h3⟩ := print_take_of (P := Tryz.prog) (Value.int .i64) (0 : Int) 25 3 .i64 Tryz.underlying25 hi hz1 A c l (m : Int) (by omega) (by omega) hc
  have := h1 W
  rwa [Int.toNat_natCast, List.length_take, Nat.min_eq_left hm] at this

/-- The search, as the code does it: the stack's last one goes first. -/
def dfsI (P : List Int) : Nat → List Int → List Int → List Int
  | 0, _, out => out
  | f + 1, s, out => match s.getLast? with
    | none => out
    | some i => if i < 0 then out else dfsI P f (s.dropLast ++ kidsI P i) (out ++ [i])
def afterI (P : List Int) : List Int := (dfsI P (P.length + 1) [idx P (-1)] []).reverse
theorem dfsI_snoc (P : List Int) (f : Nat) (s : List Int) (i : Int) (out : List Int) : dfsI P (f + 1) (s ++ [i]) out = if i < 0 then out else dfsI P f (s ++ kidsI P i) (out ++ [i]) := by
  rw [dfsI, List.getLast?_concat]
  simp only [List.dropLast_concat]
theorem dfsI_nil (P : List Int) (f : Nat) (out : List Int) : dfsI P f [] out = out := by cases f <;> rfl

set_option maxHeartbeats 2000000 in
set_option maxRecDepth 100000 in
theorem after_any (A0 : Option Addr) (n0 c0 : Nat) (A1 : Option Addr) (c1 : Nat) (P : List Int) (w : World) (hr : Kd.C KI w A1 P.length P) (hm : P.length ≤ 1000000) :
    Calls Tryz.prog 31 #[.agg #[.slice A0 n0 c0, .slice A1 P.length c1]] w fun e w' => ∃ v, e = .returned v ∧ Kd.R KI 3 w' w.heap.size AnyB v (afterI P) ∧ Below w.heap.size w w' := by
  have HR := Aside0.mk hr
  clear hr
  have hbe := below_alloc (Below.refl w.heap.size w) (.cells #[.slice A0 n0 c0, .slice A1 P.length c1] 27)
  have hk := heap_alloc_new w (.cells #[.slice A0 n0 c0, .slice A1 P.length c1] 27)
  have HB0 := Aside0.mk (And.intro hbe hk)
  have q0 := blk2_c1 hk
  have hix := slices_Index_any A1 c1 P (-1) (w.alloc (.cells #[.slice A0 n0 c0, .slice A1 P.length c1] 27)) (Kd.C_below HR.out hbe)
  clear hbe hk
  go_enter Tryz.func31, Tryz.ntmps31
  go_wp2_with (go_at_call 44; refine hix.mono ?_; rintro e w1 ⟨rfl, rfl⟩)
  have hT : TwoRows w ((w.alloc (.cells #[.slice A0 n0 c0, .slice A1 P.length c1] 27)).alloc (.cells #[.int .i64 (idx P (-1))] 3)) #[.slice A0 n0 c0, .slice A1 P.length c1] (.slice none 0 0) (.slice (some ⟨w.heap.size + 1, 0, none⟩) 1 1) [] [idx P (-1)] := by
    have h := lit_row (w.alloc (.cells #[.slice A0 n0 c0, .slice A1 P.length c1] 27)) [idx P (-1)] w.heap.size (by simp) (by simp)
    rw [World.size_alloc] at h
    exact ⟨Kd.R_nil _ _ _ _ _, h, fun k hk => by simp [Value.ownBlock] at hk, below_alloc HB0.out.1 _, (Below.heap_alloc _ _ _ (by simp)).trans HB0.out.2⟩
  have HT := Aside0.mk hT
  generalize (w.alloc (.cells #[.slice A0 n0 c0, .slice A1 P.length c1] 27)).alloc (.cells #[.int .i64 (idx P (-1))] 3) = W0 at *
  clear hT q0 hix HB0
  obtain ⟨res, hres⟩ : ∃ res, dfsI P (P.length + 1) [idx P (-1)] [] = res := ⟨_, rfl⟩
  have HRES := Aside0.mk hres
  clear hres
  go_loopw [2, 3] (fun v u wr => ∃ (f : Nat) (out s : List Int), Aside0 (out.length + f = P.length + 1 ∧ s.length ≤ 1 + out.length * P.length ∧ dfsI P f s out = res) ∧ Aside0 (TwoRows w wr #[.slice A0 n0 c0, .slice A1 P.length c1] v u out s)) (fun v _ _ => P.length + 1 - slLen v)
  case atStart => exact ⟨P.length + 1, [], [idx P (-1)], ⟨by simp, by simp, HRES.out⟩, HT⟩
  case round =>
    obtain ⟨f, out, s, HI, HT⟩ := hrel
    obtain ⟨Ao, co, rfl, hco, hCo⟩ := Kd.R_reads HT.out.o
    obtain ⟨As, cs, rfl, hcs, hCs⟩ := Kd.R_reads HT.out.s
    have q1 := blk2_c1 HT.out.blk
    have q0 := blk2_c0 HT.out.blk
    have hIl := HI.out.1
    by_cases hs : s = []
    · subst hs
      have hend : out = res := by rw [← HI.out.2.2, dfsI_nil]
      have hz : decide ((0 : Int) < 0) = false := rfl
      have HE := Aside0.mk hend
      clear hend
      go_wp2_with (go_at_call 32; refine (reverseI_any w.heap.size _ out _ HT.out.o (by omega)).mono ?_; rintro e w1 ⟨rfl, hv, hb⟩; have HV := Aside0.mk hv; have HBB := Aside0.mk hb; clear hv hb)
      go_ret
      exact ⟨_, rfl, by rw [show afterI P = out.reverse by unfold afterI; rw [HRES.out, HE.out]]; exact HV.out, HT.out.bel.trans HBB.out⟩
    · obtain ⟨s0, i, rfl⟩ : ∃ s0 i, s = s0 ++ [i] := ⟨s.dropLast, s.getLast hs, (List.dropLast_concat_getLast hs).symm⟩
      have hsl : (s0 ++ [i]).length = s0.length + 1 := by simp
      have hpos : (0 : Int) < ((s0 ++ [i]).length : Int) := by omega
      have hposb : decide ((0 : Int) < ((s0 ++ [i]).length : Int)) = true := decide_eq_true hpos
      by_cases hf : f = 0
      · subst hf
        have hle : ¬ ((out.length : Int) ≤ (P.length : Int)) := by omega
        have hleb : decide ((out.length : Int) ≤ (P.length : Int)) = false := decide_eq_false hle
        have HE := Aside0.mk (show out = res from HI.out.2.2)
        go_wp2_with (go_at_call 32; refine (reverseI_any w.heap.size _ out _ HT.out.o (by omega)).mono ?_; rintro e w1 ⟨rfl, hv, hb⟩; have HV := Aside0.mk hv; have HBB := Aside0.mk hb; clear hv hb)
        go_ret
        exact ⟨_, rfl, by rw [show afterI P = out.reverse by unfold afterI; rw [HRES.out, HE.out]]; exact HV.out, HT.out.bel.trans HBB.out⟩
      · obtain ⟨f, rfl⟩ : ∃ j, f = j + 1 := ⟨f - 1, by omega⟩
        have hle : (out.length : Int) ≤ (P.length : Int) := by omega
        have hleb : decide ((out.length : Int) ≤ (P.length : Int)) = true := decide_eq_true hle
        obtain ⟨ad, rfl, hx⟩ := Kd.at_int hCs (s0.length : Int) (by omega) (by omega)
        rw [show rd (s0 ++ [i]) (s0.length : Int) = i by rw [rd_get _ _ (by simp)]; simp] at hx
        simp only [Int.toNat_natCast] at hx
        have hmn : IntKind.i64.wrap (((s0 ++ [i]).length : Int) - 1) = (s0.length : Int) := by rw [hsl, show (((s0.length + 1 : Nat)) : Int) - 1 = (s0.length : Int) by omega]; exact Go.IntWalk.i64_in _ (by have := HI.out.2.1; have : out.length * P.length ≤ 1000001 * 1000000 := Nat.mul_le_mul (by omega) hm; omega)
        have hcut := cut_n (some ad) cs s0.length (s0 ++ [i]) (by omega) hcs
        have hT2 := HT.out.take s0.length (by simp)
        rw [List.take_left'  rfl] at hT2
        have HT2 := Aside0.mk hT2
        have HN := Aside0.mk (show dfsI P (f + 1) (s0 ++ [i]) out = res from HI.out.2.2)
        have hsm : s0.length ≤ 1000001 * 1000000 := by have := HI.out.2.1; have : out.length * P.length ≤ 1000001 * 1000000 := Nat.mul_le_mul (by omega) hm; omega
        clear hT2 hCo hCs
        by_cases hneg : i < 0
        · have hnb : decide (i < 0) = true := decide_eq_true hneg
          have HE := Aside0.mk (show out = res from by rw [← HN.out, dfsI_snoc, if_pos hneg])
          go_wp2_with (go_at_call 32; refine (reverseI_any w.heap.size _ out _ HT.out.o (by omega)).mono ?_; rintro e w1 ⟨rfl, hv, hb⟩; have HV := Aside0.mk hv; have HBB := Aside0.mk hb; clear hv hb)
          go_ret
          exact ⟨_, rfl, by rw [show afterI P = out.reverse by unfold afterI; rw [HRES.out, HE.out]]; exact HV.out, HT.out.bel.trans HBB.out⟩
        · have hnb : decide (i < 0) = false := decide_eq_false hneg
          have HE := Aside0.mk (show dfsI P f (s0 ++ kidsI P i) (out ++ [i]) = res from by rw [← HN.out, dfsI_snoc, if_neg hneg])
          have hkl : (kidsI P i).length ≤ P.length := kidsTo_len P i P.length
          go_wp2_with (first
            | (have hgd := HT4; clear hgd; at_builtin; refine app_ints4 (w := w) w.heap.size rfl (.tmp 37) (.tmp 40) rfl _ s0 (kidsI P i) _ _ rfl rfl HT4.out.s HK.out HT4.out.bel HT4.out.bel.size (by omega) ?_; intro v5 w5 hv5 hb5 hg5 ha5; have HT5 := Aside0.mk (HT4.out.pushS hv5 hb5 hg5 ha5); obtain ⟨A5, c5, rfl, _, _⟩ := Kd.R_reads hv5; clear hv5 hb5 hg5 ha5)
            | (have hgd := HT3; clear hgd; go_at_call 45; refine (children_any A0 n0 c0 A1 c1 P i _ (Kd.C_below HR.out HT3.out.bel) hm).mono ?_; rintro e w4 ⟨v4, rfl, hv4, hb4⟩; obtain ⟨A4, c4, rfl, _, hC4⟩ := Kd.R_reads hv4; have HT4 := Aside0.mk (HT3.out.below hb4); have HK := Aside0.mk hC4; clear hv4 hb4 hC4)
            | (at_builtin; refine app_int4 (w := w) w.heap.size rfl (.tmp 33) (.tmp 35) rfl _ out i rfl rfl HT2.out.o HT2.out.bel HT2.out.bel.size (by omega) ?_; intro v3 w3 hv3 hb3 hg3 ha3; have hT3 := HT2.out.pushO hv3 hb3 hg3 ha3; obtain ⟨A3, c3, rfl, _, _⟩ := Kd.R_reads hv3; have q3 := blk2_c1 hT3.blk; have q4 := blk2_c0 hT3.blk; have HT3 := Aside0.mk hT3; clear hv3 hb3 hg3 ha3 hT3 q1 q0))
          go_roundw
          case rel => exact ⟨f, out ++ [i], s0 ++ kidsI P i, ⟨by simp; omega, by rw [List.length_append, List.length_append, List.length_singleton, Nat.add_mul]; have := HI.out.2.1; omega, HE.out⟩, ⟨by have := HT5.out; simpa only [List.length_append, List.length_singleton] using this⟩⟩
          case measure => simp [slLen]; omega
end Go.Proofs.YtpimooejnpdlpaaGreatDoor.G
