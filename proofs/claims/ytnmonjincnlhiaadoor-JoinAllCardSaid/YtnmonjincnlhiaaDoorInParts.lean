/- A slice of parts that comes in. -/
import Derived.Test.YtnmonjincnlhiaaDoorAllIs
import Derived.Deep.SlicePairs
set_option linter.unusedVariables false
set_option linter.unusedSimpArgs false
namespace Go.Proofs.YtnmonjincnlhiaaDoor.G
open Go.RowKit Go.ChangeShapes Go.WideShapes Go.ChangeAt Go.Deep Go.Proofs.YtnmonjincnlhiaaDoorW.PrintWords Go.Proofs.YtnmonjincnlhiaaDoorW.PrintLast Go.Proofs.YtnmonjincnlhiaaDoorW.PrintMore Go.Proofs.YtnmonjincnlhiaaDoor.PRefs

/-- A part's two cells, and what they read. -/
def PartAt (W : World) (ad : Addr) (i : Nat) (q : S25) : Prop :=
  ∃ A c A' c', W.cell? (ad.add (i * 2)) = some (.slice A q.f0.length c) ∧ W.cell? (ad.add (i * 2 + 1)) = some (.slice A' q.f1.length c') ∧ q.f0.length ≤ c ∧ Kd.C KI W A q.f0.length q.f0 ∧ q.f1.length ≤ c' ∧ Kd.C KL W A' q.f1.length q.f1
set_option maxRecDepth 100000 in
theorem in_parts {H : Type} {enc : TypeId × Value → H} {W : World} {base : Nat} {held : Bool} {a : Option Addr} {len cap : Nat} {x : DataW H × List MemPlace} {fuel : Nat}
    (h : DataW.trod enc Tryd.prog W base (fun _ => true) held fuel 38 (Value.slice a len cap).cells.toList = some x) :
    ∃ L : List S25, L.length = len ∧ len ≤ cap ∧ Kd.C k25 W a L.length L := by
  have e : (Value.slice a len cap).cells.toList = [.slice a len cap] := by simp [Value.cells]
  rw [e] at h
  rcases Go.Deep.open_slice_pairs Tryd.underlying38 Tryd.underlying25 (by kernel_rfl) rfl rfl (by kernel_rfl) (by kernel_rfl) h with ⟨hcs, _⟩ | ⟨ad, l, c, m, n, V0, V1, D0, D1, P0, P1, hcs, _, hl, hm, hmm, _, hx⟩
  · simp at hcs
    obtain ⟨rfl, rfl, rfl⟩ := hcs
    exact ⟨[], rfl, Nat.le_refl _, Kd.C_nil _ _⟩
  · simp at hcs
    obtain ⟨rfl, rfl, rfl⟩ := hcs
    have hmc : len ≤ m := by rw [hmm, if_pos rfl]; exact hl
    have each : ∀ i, i < len → ∃ q : S25, PartAt W ad i q := by
      intro i hi
      obtain ⟨h0, h1, t0, t1⟩ := hx i (by omega)
      obtain ⟨a0, l0, c0, e0⟩ := slice_of Tryd.underlying22 t0
      obtain ⟨a1, l1, c1, e1⟩ := slice_of Tryd.underlying23 t1
      rw [e0] at h0 t0
      rw [e1] at h1 t1
      obtain ⟨xs, hxs, hcx, hC⟩ := in_ints (a := a0) (len := l0) (cap := c0) t0
      obtain ⟨L, hL, hcL, hD⟩ := in_rows (a := a1) (len := l1) (cap := c1) t1
      subst hxs hL
      exact ⟨⟨xs, L⟩, a0, c0, a1, c1, h0, h1, hcx, hC, hcL, hD⟩
    obtain ⟨q, hq⟩ : ∃ q : Nat → S25, ∀ i, i < len → PartAt W ad i (q i) :=
      ⟨fun i => if hi : i < len then Classical.choose (each i hi) else z25, fun i hi => by
        show PartAt W ad i (if hi : i < len then Classical.choose (each i hi) else z25)
        rw [dif_pos hi]; exact Classical.choose_spec (each i hi)⟩
    have hlen : ((List.range len).map q).length = len := by simp
    refine ⟨(List.range len).map q, hlen, hl, hlen.symm ▸ ?_⟩
    refine ⟨hlen, by unfold maxLen at hm; omega, fun h0 => ⟨ad, rfl, fun j p hj => ?_⟩⟩
    have hjl : j < len := by have := (List.getElem?_eq_some_iff.1 hj).1; omega
    have hp : p = q j := by
      rw [List.getElem?_map, List.getElem?_range hjl] at hj
      exact (Option.some.inj hj).symm
    subst hp
    obtain ⟨A, c, A', c', g0, g1, m0, k0, m1, k1⟩ := hq j hjl
    refine ⟨[.slice A (q j).f0.length c, .slice A' (q j).f1.length c'], rfl, k25_mk W (q j) m0 k0 m1 k1, fun i u hu => ?_⟩
    have hi0 : i < 2 := (List.getElem?_eq_some_iff.1 hu).1
    rw [show (k25).sz = 2 from rfl]
    match i, hi0 with
    | 0, _ =>
      have hu' : u = .slice A (q j).f0.length c := by simpa using hu.symm
      rw [hu', Nat.add_zero]; exact g0
    | 1, _ =>
      have hu' : u = .slice A' (q j).f1.length c' := by simpa using hu.symm
      rw [hu']; exact g1
end Go.Proofs.YtnmonjincnlhiaaDoor.G
