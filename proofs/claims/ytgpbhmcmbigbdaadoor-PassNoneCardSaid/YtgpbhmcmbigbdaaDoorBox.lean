/- What the laws of relations share: what Small makes, a relation's box, the calls of rel with a known answer. -/
import Derived.Test.YtgpbhmcmbigbdaaDoorMD
import Derived.Test.YtgpbhmcmbigbdaaDoorMG
import Derived.Test.YtgpbhmcmbigbdaaDoorMC
import Derived.Test.YtgpbhmcmbigbdaaDoorRows
import Derived.Test.YtgpbhmcmbigbdaaDoorMA
import Derived.Deep.Matrix
import Derived.ProofKit
import Derived.OpenShut
set_option linter.unusedVariables false
set_option linter.unusedSimpArgs false
namespace Go.Proofs.YtgpbhmcmbigbdaaDoor.G
open Go.RowKit Go.Proofs.YtgpbhmcmbigbdaaDoorW.PrintWords Go.Proofs.YtgpbhmcmbigbdaaDoorW.PrintLast Go.Proofs.YtgpbhmcmbigbdaaDoorW.PrintMore Go.Proofs.YtgpbhmcmbigbdaaDoor.PRefs
attribute [local go_sem] min2_int min_two

/-! What Small makes is right. -/
theorem foldl_uni (l s : List Int) : (l.foldl (fun s v => uni1 s (md v 6)) s).length ≤ s.length + l.length ∧ (Rise s → Rise (l.foldl (fun s v => uni1 s (md v 6)) s)) ∧ ∀ x, x ∈ l.foldl (fun s v => uni1 s (md v 6)) s → x ∈ s ∨ ∃ v, x = md v 6 := by
  induction l generalizing s with
  | nil => exact ⟨Nat.le_refl _, id, fun x h => .inl h⟩
  | cons a l ih =>
    obtain ⟨h1, h2, h3⟩ := ih (uni1 s (md a 6))
    refine ⟨?_, fun h => h2 (uni1_rise _ _ h), fun x hx => ?_⟩
    · have := uni1_len s (md a 6)
      simp only [List.foldl_cons, List.length_cons]; omega
    · rcases h3 x hx with h | h
      · rcases (uni1_mem _ _ _).1 h with h | h
        · exact .inl h
        · exact .inr ⟨a, h⟩
      · exact .inr h
theorem and16 (v : Int) : 0 ≤ Go.bits .and .i64 v 65535 ∧ Go.bits .and .i64 v 65535 ≤ 65535 := by
  have h : (BitVec.ofInt 64 v &&& BitVec.ofInt 64 65535).toNat ≤ 65535 := by rw [BitVec.toNat_and]; exact Nat.le_trans Nat.and_le_right (by decide)
  show 0 ≤ IntKind.i64.wrap ((BitVec.ofInt 64 v &&& BitVec.ofInt 64 65535).toNat : Int) ∧ IntKind.i64.wrap ((BitVec.ofInt 64 v &&& BitVec.ofInt 64 65535).toNat : Int) ≤ 65535
  rw [Go.IntWalk.i64_in _ (by omega)]
  omega
theorem md_pos (v q : Int) (hq : 0 < q) : 0 ≤ md v q ∧ md v q < q := by
  unfold md
  rw [Int.tmod_eq_emod_of_nonneg (and16 v).1]
  exact ⟨Int.emod_nonneg _ (by omega), Int.emod_lt_of_pos _ hq⟩
theorem smallS_pos (l : List Int) : ∀ x ∈ smallS l, 0 ≤ x ∧ x < 6 := fun x hx => by
  rcases (foldl_uni (l.take 4) []).2.2 x hx with h | ⟨v, rfl⟩
  · simp at h
  · exact md_pos v 6 (by omega)
theorem smallS_len (l : List Int) : (smallS l).length ≤ 4 := by
  have h := (foldl_uni (l.take 4) []).1
  have h2 : (l.take 4).length ≤ 4 := by simp; omega
  unfold smallS
  simp only [List.length_nil] at h
  omega
theorem smallS_rise (l : List Int) : Rise (smallS l) := (foldl_uni (l.take 4) []).2.1 List.Pairwise.nil
theorem smallRows_up (n : Nat) (L : List (List Int)) : Pl.Up (smallRows n L) := Pl.sortU_up _
theorem smallRows_len (n : Nat) (L : List (List Int)) : (smallRows n L).length ≤ 20 := by
  have := Pl.sortU_length_le ((L.take 20).map (smallRow n))
  unfold smallRows
  simp only [List.length_map, List.length_take] at this
  omega
theorem smallRows_row (n : Nat) (L : List (List Int)) : ∀ x ∈ smallRows n L, x.length = n := fun x hx => by
  unfold smallRows at hx
  rw [Pl.mem_sortU] at hx
  obtain ⟨t, _, rfl⟩ := List.mem_map.1 hx
  exact smallRow_len n t

/-- The first ten numbers of a row. -/
theorem cut10 (A : Option Addr) (c : Nat) (m : List Int) (hc : m.length ≤ c) :
    (∀ W : World, (Instr.slice 25 (.slice A m.length c) none (some (.int .i64 (if (10 : Int) < (m.length : Int) then 10 else (m.length : Int)))) none).run Tryd.prog W = .ok (.slice A (m.take 10).length c) W) ∧ (∀ w : World, Kd.C KI w A m.length m → Kd.C KI w A (m.take 10).length (m.take 10)) ∧ (m.take 10).length ≤ c := by
  obtain ⟨i0, hi, _, hz1, _⟩ := info_parts infoInt
  obtain ⟨h1, h2, h3⟩ := print_take_of (P := Tryd.prog) (Value.int .i64) (0 : Int) 25 3 .i64 Tryd.underlying25 hi hz1 A c m (if (10 : Int) < (m.length : Int) then 10 else (m.length : Int)) (by split <;> omega) (by split <;> omega) hc
  have e : m.take (if (10 : Int) < (m.length : Int) then (10 : Int) else (m.length : Int)).toNat = m.take 10 := by
    by_cases h : (10 : Int) < (m.length : Int)
    · rw [if_pos h]; rfl
    · rw [if_neg h, Int.toNat_natCast, List.take_of_length_le (Nat.le_refl _), List.take_of_length_le (by omega)]
  rw [e] at h1 h2 h3
  exact ⟨h1, fun w h => Kd.C_of_reads (h1 := fun _ => rfl) (d := (0 : Int)) (h2 w (Kd.reads_of_C (h1 := fun _ => rfl) h)), h3⟩
theorem min2_mn (k k' : IntKind) (x y : Int) : Builtin.min2 (.int k x) (.int k' y) = pure (.int k (mn x y)) := min2_int k k' x y
/-- The first ten numbers of a row, told by 'mn'. -/
theorem cut10m (A : Option Addr) (c : Nat) (m : List Int) (hc : m.length ≤ c) :
    (∀ W : World, (Instr.slice 25 (.slice A m.length c) none (some (.int .i64 (mn (m.length : Int) 10))) none).run Tryd.prog W = .ok (.slice A (m.take 10).length c) W) ∧ (∀ w : World, Kd.C KI w A m.length m → Kd.C KI w A (m.take 10).length (m.take 10)) ∧ (m.take 10).length ≤ c := cut10 A c m hc
theorem right_small (l : List Int) (L : List (List Int)) : RightP (smallS l) (smallRows (smallS l).length L) :=
  ⟨⟨smallS_rise l, fun ⟨h, h'⟩ => by
    have := (smallS_pos l (rd (smallS l) 0) (by rw [show (0 : Int) = ((0 : Nat) : Int) from rfl, rd_get _ 0 h]; exact List.getElem_mem h)).1
    omega⟩, smallRows_row _ _, smallRows_up _ _⟩
theorem right_none (l : List Int) : RightP (smallS l) [] := ⟨(right_small l []).1, by simp, List.Pairwise.nil⟩

/-- A relation's box, and what it leads to. -/
structure RelBox (W : World) (g : Nat) (A : Option Addr) (c : Nat) (sc : List Int) (A' : Option Addr) (c' : Nat) (L : List (List Int)) : Prop where
  blk : W.heap[g]? = some (.cells #[.slice A sc.length c, .slice A' L.length c'] 37 (0, 0))
  row : Kd.C KI W A sc.length sc
  rows : Kd.C KL W A' L.length L
theorem RelBox.step {W W1 : World} {g : Nat} {A : Option Addr} {c : Nat} {sc : List Int} {A' : Option Addr} {c' : Nat} {L : List (List Int)} (h : RelBox W g A c sc A' c' L) (hb : Below W.heap.size W W1) : RelBox W1 g A c sc A' c' L :=
  ⟨(hb.block _ (Array.getElem?_eq_some_iff.1 h.blk).1).trans h.blk, Kd.C_below h.row hb, Kd.C_below h.rows hb⟩
theorem RelBox.new {w : World} {A : Option Addr} {sc : List Int} {A' : Option Addr} {L : List (List Int)} (c c' : Nat) (h0 : Kd.C KI w A sc.length sc) (h1 : Kd.C KL w A' L.length L) : RelBox (w.alloc (.cells #[.slice A sc.length c, .slice A' L.length c'] 37)) w.heap.size A c sc A' c' L :=
  ⟨heap_alloc_new w _, Kd.C_below h0 (below_alloc (Below.refl _ _) _), Kd.C_below h1 (below_alloc (Below.refl _ _) _)⟩

/-- A relation that can be read. -/
structure RelRd (W : World) (A : Option Addr) (c : Nat) (sc : List Int) (A' : Option Addr) (c' : Nat) (L : List (List Int)) : Prop where
  row : Kd.C KI W A sc.length sc
  cap : sc.length ≤ c
  rows : Kd.C KL W A' L.length L
  cap2 : L.length ≤ c'
theorem RelRd.step {W W1 : World} {A : Option Addr} {c : Nat} {sc : List Int} {A' : Option Addr} {c' : Nat} {L : List (List Int)} (h : RelRd W A c sc A' c' L) (hb : Below W.heap.size W W1) : RelRd W1 A c sc A' c' L :=
  ⟨Kd.C_below h.row hb, h.cap, Kd.C_below h.rows hb, h.cap2⟩
/-- A relation in a box. -/
structure RelBx (W : World) (g : Nat) (A : Option Addr) (c : Nat) (sc : List Int) (A' : Option Addr) (c' : Nat) (L : List (List Int)) : Prop where
  blk : W.heap[g]? = some (.cells #[.slice A sc.length c, .slice A' L.length c'] 37 (0, 0))
  rd : RelRd W A c sc A' c' L
theorem RelBx.step {W W1 : World} {g : Nat} {A : Option Addr} {c : Nat} {sc : List Int} {A' : Option Addr} {c' : Nat} {L : List (List Int)} (h : RelBx W g A c sc A' c' L) (hb : Below W.heap.size W W1) : RelBx W1 g A c sc A' c' L :=
  ⟨(hb.block _ (Array.getElem?_eq_some_iff.1 h.blk).1).trans h.blk, h.rd.step hb⟩
theorem RelBx.new {w : World} {A : Option Addr} {c : Nat} {sc : List Int} {A' : Option Addr} {c' : Nat} {L : List (List Int)} (h : RelRd w A c sc A' c' L) : RelBx (w.alloc (.cells #[.slice A sc.length c, .slice A' L.length c'] 37)) w.heap.size A c sc A' c' L :=
  ⟨heap_alloc_new w _, h.step (below_alloc (Below.refl _ _) _)⟩
theorem below_box {w w1 : World} (h : Below w.heap.size w w1) (b : _) : Below w.heap.size w (w1.alloc b) := h.trans (below_alloc (Below.refl _ _) b |>.mono h.size)
theorem RelM.rd {w : World} {base : Nat} {v : Value} {r : List Int × List (List Int)} (h : RelM w base v r) : ∃ A c A' c', v = .agg #[.slice A r.1.length c, .slice A' r.2.length c'] ∧ RelRd w A c r.1 A' c' r.2 := by
  obtain ⟨A, c, A', c', rfl, h0, h3, h1, h2⟩ := h.reads
  exact ⟨A, c, A', c', rfl, h1, h0, h2, h3⟩
/-- A relation of no great size. -/
structure Sz (sc : List Int) (L : List (List Int)) : Prop where
  s : sc.length ≤ 1000
  l : L.length ≤ 10000
  x : ∀ x ∈ L, x.length ≤ 1000
theorem sz_proj {sc : List Int} {L : List (List Int)} (h : Sz sc L) (vars : List Int) (hr : RightP sc L) : Sz (projRel sc L vars).1 (projRel sc L vars).2 := by
  have h1 := right_proj hr vars
  have h2 : (projRel sc L vars).1.length ≤ sc.length := by
    show (onto sc vars).length ≤ _
    rw [onto_eq sc vars hr.1.1]
    exact List.length_filter_le _ _
  refine ⟨Nat.le_trans h2 h.s, Nat.le_trans (cutRows_len _ _ _) h.l, fun x hx => ?_⟩
  rw [h1.2.1 x hx]
  exact Nat.le_trans h2 h.s
theorem sz_sel {sc : List Int} {L : List (List Int)} (h : Sz sc L) (v value : Int) : Sz (selRel sc L v value).1 (selRel sc L v value).2 :=
  ⟨h.s, Nat.le_trans (List.length_filter_le _ _) h.l, fun x hx => h.x x (memF hx)⟩
theorem sz_small (sch : List Int) (rows : List (List Int)) : Sz (smallS sch) (smallRows (smallS sch).length rows) := by
  have h1 := smallS_len sch
  refine ⟨by omega, by have := smallRows_len (smallS sch).length rows; omega, fun x hx => ?_⟩
  rw [smallRows_row _ _ x hx]; omega

/-- What a call that answers a relation leaves. -/
def RelTo (w w' : World) (e : Ending) (sc : List Int) (L : List (List Int)) : Prop := ∃ A c A' c', e = .returned (.agg #[.slice A sc.length c, .slice A' L.length c']) ∧ RelRd w' A c sc A' c' L ∧ Below w.heap.size w w'
def RelOk (w w' : World) (e : Ending) (sc : List Int) (L : List (List Int)) (n : Int) : Prop := ∃ A c A' c', e = .returned (.tuple #[.agg #[.slice A sc.length c, .slice A' L.length c'], .int .i64 n]) ∧ RelRd w' A c sc A' c' L ∧ Below w.heap.size w w'

section
variable {w : World} {A : Option Addr} {c : Nat} {sc : List Int} {A' : Option Addr} {c' : Nat} {L : List (List Int)} {B : Option Addr} {d : Nat} {sd : List Int} {B' : Option Addr} {d' : Nat} {M : List (List Int)}
theorem project_is {A2 : Option Addr} {c2 : Nat} {vars : List Int} (h : RelRd w A c sc A' c' L) (hz : Sz sc L) (hr2 : Kd.C KI w A2 vars.length vars) (hm2 : vars.length ≤ 1000) {SC' : List Int} {L' : List (List Int)} (hP : projRel sc L vars = (SC', L')) :
    Calls Tryd.prog 30 #[.agg #[.slice A sc.length c, .slice A' L.length c'], .slice A2 vars.length c2] w fun e w' => RelTo w w' e SC' L' := by
  have h1 := hz.s
  have h2 := hz.l
  refine (project_any A c sc A' c' L A2 c2 vars w h.row h.cap h.rows hr2 (by omega) (by omega) (by omega)).mono ?_
  rintro e w' ⟨v, rfl, hv, hb⟩
  rw [hP] at hv
  obtain ⟨A, c, A', c', rfl, h⟩ := hv.rd
  exact ⟨A, c, A', c', rfl, h, hb⟩
theorem same_is (h : RelRd w A c sc A' c' L) (hz : Sz sc L) (h' : RelRd w B d sd B' d' M) (b : Bool) (hb : decide (sc = sd ∧ L = M) = b) :
    Calls Tryd.prog 29 #[.agg #[.slice A sc.length c, .slice A' L.length c'], .agg #[.slice B sd.length d, .slice B' M.length d']] w fun e w' => e = .returned (.bool b) ∧ Below w.heap.size w w' :=
  same_any A c sc A' c' L B d sd B' d' M w h.row h.rows h'.row h'.rows (by have := hz.l; omega) b hb
end
end Go.Proofs.YtgpbhmcmbigbdaaDoor.G

set_option linter.unusedVariables false
namespace Go.Proofs.YtgpbhmcmbigbdaaDoor.G
open Go.RowKit Go.ChangeShapes Go.WideShapes Go.ChangeAt Go.Deep Go.Proofs.YtgpbhmcmbigbdaaDoorW.PrintWords Go.Proofs.YtgpbhmcmbigbdaaDoorW.PrintLast Go.Proofs.YtgpbhmcmbigbdaaDoorW.PrintMore

/-- A row of numbers that came in. -/
theorem in_ints {H : Type} {enc : TypeId × Value → H} {W : World} {base : Nat} {held : Bool} {a : Option Addr} {len cap : Nat} {x : DataW H × List MemPlace} {fuel : Nat}
    (h : DataW.trod enc Tryd.prog W base (fun _ => true) held fuel 25 (Value.slice a len cap).cells.toList = some x) :
    ∃ xs : List Int, xs.length = len ∧ len ≤ cap ∧ Kd.C KI W a xs.length xs := by
  rcases open_ints Tryd.underlying25 Tryd.underlying3 (by kernel_rfl) h with ⟨hcs, _⟩ | ⟨ad, l, c, zs, hcs, _, hl, hm, hz, _, hcell, hwz⟩
  · simp [Value.cells] at hcs
    obtain ⟨rfl, rfl, rfl⟩ := hcs
    exact ⟨[], rfl, Nat.le_refl _, Kd.C_nil _ _⟩
  · simp [Value.cells] at hcs
    obtain ⟨rfl, rfl, rfl⟩ := hcs
    have hz' : zs.length = cap := by simpa using hz
    have hlen : (zs.take len).length = len := by simp; omega
    refine ⟨zs.take len, hlen, hl, hlen.symm ▸ ?_⟩
    refine ⟨hlen, by unfold maxLen at hm; omega, fun h0 => ⟨ad, rfl, fun j p hj => ?_⟩⟩
    have hjl : j < len := by have := (List.getElem?_eq_some_iff.1 hj).1; omega
    refine ⟨[.int .i64 p], rfl, rfl, fun i u hu => ?_⟩
    have hi0 : i = 0 := by have := (List.getElem?_eq_some_iff.1 hu).1; simpa using this
    subst hi0
    have hu' : u = .int .i64 p := by simpa using hu.symm
    rw [hu', show KI.sz = 1 from rfl, Nat.mul_one, Nat.add_zero, hcell j (by omega)]
    rw [List.getElem?_take_of_lt hjl] at hj
    rw [List.getD_eq_getElem?_getD, hj]; rfl

theorem C_of_cells {W : World} {a : Option Addr} {zs : List Int} {len cap : Nat} (hl : len ≤ cap) (hm : cap ≤ maxLen) (hz : zs.length = cap) (hn : a = none → cap = 0) (hc : ∀ a', a = some a' → ∀ c, c < cap → W.cell? (a'.add c) = some (.int .i64 (zs.getD c 0))) :
    (zs.take len).length = len ∧ Kd.C KI W a (zs.take len).length (zs.take len) := by
  have hlen : (zs.take len).length = len := by simp; omega
  refine ⟨hlen, hlen.symm ▸ ?_⟩
  refine ⟨hlen, by unfold maxLen at hm; omega, fun h0 => ?_⟩
  cases a with
  | none => have := hn rfl; omega
  | some ad =>
    refine ⟨ad, rfl, fun j p hj => ?_⟩
    have hjl : j < len := by have := (List.getElem?_eq_some_iff.1 hj).1; omega
    refine ⟨[.int .i64 p], rfl, rfl, fun i u hu => ?_⟩
    have hi0 : i = 0 := by have := (List.getElem?_eq_some_iff.1 hu).1; simpa using this
    subst hi0
    have hu' : u = .int .i64 p := by simpa using hu.symm
    rw [hu', show KI.sz = 1 from rfl, Nat.mul_one, Nat.add_zero, hc ad rfl j (by omega)]
    rw [List.getElem?_take_of_lt hjl] at hj
    rw [List.getD_eq_getElem?_getD, hj]; rfl

/-- A row of rows that came in. -/
theorem in_rows {H : Type} {enc : TypeId × Value → H} {W : World} {base : Nat} {held : Bool} {a : Option Addr} {len cap : Nat} {x : DataW H × List MemPlace} {fuel : Nat}
    (h : DataW.trod enc Tryd.prog W base (fun _ => true) held fuel 24 (Value.slice a len cap).cells.toList = some x) :
    ∃ L : List (List Int), L.length = len ∧ len ≤ cap ∧ Kd.C KL W a L.length L := by
  rcases open_int_rows Tryd.underlying24 Tryd.underlying25 Tryd.underlying3 (by kernel_rfl) (by kernel_rfl) h with ⟨hcs, _⟩ | ⟨ad, l, c, A, Ln, Cp, Z, hcs, _, hl, hm, _, hrow⟩
  · simp [Value.cells] at hcs
    obtain ⟨rfl, rfl, rfl⟩ := hcs
    exact ⟨[], rfl, Nat.le_refl _, Kd.C_nil _ _⟩
  · simp [Value.cells] at hcs
    obtain ⟨rfl, rfl, rfl⟩ := hcs
    have hlen : ((List.range len).map fun r => (Z r).take (Ln r)).length = len := by simp
    refine ⟨(List.range len).map fun r => (Z r).take (Ln r), hlen, hl, hlen.symm ▸ ?_⟩
    refine ⟨hlen, by unfold maxLen at hm; omega, fun h0 => ⟨ad, rfl, fun j p hj => ?_⟩⟩
    have hjl : j < len := by have := (List.getElem?_eq_some_iff.1 hj).1; omega
    have hp : p = (Z j).take (Ln j) := by
      rw [List.getElem?_map, List.getElem?_range hjl] at hj
      exact (Option.some.inj hj).symm
    subst hp
    obtain ⟨h1, h2, h3, h4, _, h6, h7⟩ := hrow j (by omega)
    obtain ⟨g1, g2⟩ := C_of_cells (W := W) (a := A j) h2 h3 h4 h6 (fun a' e => (h7 a' e).2)
    refine ⟨[.slice (A j) (Ln j) (Cp j)], rfl, ⟨A j, Cp j, by rw [g1], by rw [g1]; exact h2, g2⟩, fun i u hu => ?_⟩
    have hi0 : i = 0 := by have := (List.getElem?_eq_some_iff.1 hu).1; simpa using this
    subst hi0
    have hu' : u = .slice (A j) (Ln j) (Cp j) := by simpa using hu.symm
    rw [hu', show KL.sz = 1 from rfl, Nat.mul_one, Nat.add_zero]
    exact h1
end Go.Proofs.YtgpbhmcmbigbdaaDoor.G
