/- Several texts of this claim in one. -/
import Derived.Test.YtlmkgghpaaadhaaGreatDoorNA
/- weigh: a scheme that is shifted in place. -/
set_option linter.unusedVariables false
set_option linter.unusedSimpArgs false
namespace Go.Proofs.YtlmkgghpaaadhaaGreatDoor.G
open Go.RowKit Go.Proofs.YtlmkgghpaaadhaaGreatDoorW.PrintWords Go.Proofs.YtlmkgghpaaadhaaGreatDoorW.PrintLast Go.Proofs.YtlmkgghpaaadhaaGreatDoorW.PrintMore Go.Proofs.YtlmkgghpaaadhaaGreatDoor.PRefs

/-- Rows that weigh something, in a box: a scheme of a block of its own, all else in later blocks. -/
structure ShB (W : World) (base gb : Nat) (A : Option Addr) (c n : Nat) (sc : List Int) (A' : Option Addr) (c' n' : Nat) (L : List (List Int)) (Aw : Option Addr) (cw m : Nat) (ws : List Int) : Prop where
  blk : W.heap[gb]? = some (.cells #[.slice A n c, .slice A' n' c', .slice Aw m cw] 37 (0, 0))
  ln : sc.length = n
  ln' : L.length = n'
  lm : ws.length = m
  own : ∃ g, base ≤ g ∧ g ≤ gb ∧ Kd.R KI 3 W base (fun k => base ≤ k ∧ k < g) (.slice A n c) sc ∧ Kd.N KL 22 W g (fun k => g ≤ k) (.slice A' n' c') L ∧ Kd.R KI 2 W g (fun k => g ≤ k) (.slice Aw m cw) ws
theorem ShB.step {W W1 : World} {base gb : Nat} {A : Option Addr} {c n : Nat} {sc : List Int} {A' : Option Addr} {c' n' : Nat} {L : List (List Int)} {Aw : Option Addr} {cw m : Nat} {ws : List Int} (h : ShB W base gb A c n sc A' c' n' L Aw cw m ws) (hb : Below W.heap.size W W1) : ShB W1 base gb A c n sc A' c' n' L Aw cw m ws := by
  obtain ⟨g, h0, h1, h2, h3, h4⟩ := h.own
  exact ⟨(hb.block _ (Array.getElem?_eq_some_iff.1 h.blk).1).trans h.blk, h.ln, h.ln', h.lm, g, h0, h1, Kd.R_below h2 hb, Kd.N_below h3 hb, Kd.R_below h4 hb⟩
theorem ShB.put {W : World} {base gb : Nat} {A : Option Addr} {c n : Nat} {sc : List Int} {A' : Option Addr} {c' n' : Nat} {L : List (List Int)} {Aw : Option Addr} {cw m : Nat} {ws : List Int} (h : ShB W base gb A c n sc A' c' n' L Aw cw m ws) {k : Nat} (hk : k < n) :
    ∃ gs, A = some ⟨gs, 0, none⟩ ∧ base ≤ gs ∧ W.cell? ⟨gs, k, none⟩ = some (.int .i64 (rd sc (k : Int))) ∧ W.frozen? ⟨gs, k, none⟩ = false ∧ ∀ x : Int, ShB (W.setCell ⟨gs, k, none⟩ (.int .i64 x)) base gb A c n (sc.set k x) A' c' n' L Aw cw m ws := by
  obtain ⟨g, h0, h1, h2, h3, h4⟩ := h.own
  obtain ⟨inner, ho⟩ := Kd.R_own h2
  rcases ho.2 with ⟨hv, _⟩ | ⟨gs, cap, cur, hv, hgb, hh, _⟩
  · injection hv with _ hv _
    omega
  · injection hv with hv hv2 hv3
    subst hv hv3
    have hkn : (k : Int) < (n : Int) := by omega
    obtain ⟨c0, hcl, hM, hcc, hfr⟩ := Kd.R_elem h2 0 (k : Int) (by omega) hkn
    have hgs : base ≤ gs ∧ gs < g := h2.1 gs (by simp [Value.ownBlock])
    have hne : gs ≠ gb := by omega
    have hM' : c0 = [.int .i64 (sc.getD k 0)] := by rw [Int.toNat_natCast] at hM; exact hM
    have hc1 := hcc 0 (.int .i64 (sc.getD k 0)) (by rw [hM']; rfl)
    rw [Int.toNat_natCast, show KI.sz = 1 from rfl, Nat.mul_one, Nat.add_zero] at hc1
    have hf1 := hfr 0
    rw [Int.toNat_natCast, show KI.sz = 1 from rfl, Nat.mul_one, Nat.add_zero] at hf1
    refine ⟨gs, rfl, hgs.1, by rw [hc1]; rfl, hf1, fun x => ?_⟩
    obtain ⟨hR2, hg⟩ := Kd.R_seg (okp := fun _ => False) (x' := x) h2 (k : Int) (by omega) hkn (c := c0) (seg := [.int .i64 x]) (j := 0) hcl hcc (Nat.le_refl 1) (by
      rw [hM']; rfl) (fun _ h => h.elim)
    have ew : W.setCells gs ((k : Int).toNat * KI.sz + 0) [.int .i64 x] = W.setCell ⟨gs, k, none⟩ (.int .i64 x) := by
      rw [Int.toNat_natCast, show KI.sz = 1 from rfl, Nat.mul_one, Nat.add_zero]; rfl
    rw [ew] at hR2 hg
    rw [Int.toNat_natCast] at hR2
    refine ⟨?_, by simp [h.ln], h.ln', h.lm, g, h0, h1, hR2, Kd.N_far h3 (fun q hq => by have : g ≤ q := hq; show q ≠ gs; omega) _, Kd.R_far h4 (fun q hq => by have : g ≤ q := hq; show q ≠ gs; omega) _⟩
    rw [Below.heap_setCell W ⟨gs, k, none⟩ _ gb (by show gb ≠ gs; omega)]
    exact h.blk
section
variable {w : World} {A : Option Addr} {c : Nat} {sc : List Int} {A' : Option Addr} {c' : Nat} {L : List (List Int)}
end
end Go.Proofs.YtlmkgghpaaadhaaGreatDoor.G

/- weigh: products and sums of what shares nothing, in calls. -/
set_option linter.unusedVariables false
set_option linter.unusedSimpArgs false
namespace Go.Proofs.YtlmkgghpaaadhaaGreatDoor.G
open Go.RowKit Go.Proofs.YtlmkgghpaaadhaaGreatDoorW.PrintWords Go.Proofs.YtlmkgghpaaadhaaGreatDoorW.PrintLast Go.Proofs.YtlmkgghpaaadhaaGreatDoorW.PrintMore

section
variable {w : World} {A : Option Addr} {c n : Nat} {sa : List Int} {A' : Option Addr} {c' n' : Nat} {La : List (List Int)} {Aw : Option Addr} {cw m : Nat} {wa : List Int} {B : Option Addr} {d k : Nat} {sb : List Int} {B' : Option Addr} {d' k' : Nat} {Lb : List (List Int)} {Bw : Option Addr} {dw l : Nat} {wb : List Int}
end
end Go.Proofs.YtlmkgghpaaadhaaGreatDoor.G
