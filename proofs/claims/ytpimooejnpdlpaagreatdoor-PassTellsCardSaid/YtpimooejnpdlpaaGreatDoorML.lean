/- Several texts of this claim in one. -/
import Derived.Test.YtpimooejnpdlpaaGreatDoorMK
import Derived.Test.YtpimooejnpdlpaaGreatDoorMQ
/- Literals: several blocks laid one behind the other; rows, and relations, that stand in a block. -/
set_option linter.unusedVariables false
set_option linter.unusedSimpArgs false
namespace Go.Proofs.YtpimooejnpdlpaaGreatDoor.G
open Go.RowKit Go.Proofs.YtpimooejnpdlpaaGreatDoorW.PrintWords Go.Proofs.YtpimooejnpdlpaaGreatDoorW.PrintLast Go.Proofs.YtpimooejnpdlpaaGreatDoorW.PrintMore Go.Proofs.YtpimooejnpdlpaaGreatDoor.PRefs

theorem lits_below (w : World) (os : List Obj) : Below w.heap.size w (os.foldl World.alloc w) := by
  have h : ∀ (os : List Obj) (W : World), Below w.heap.size w W → Below w.heap.size w (os.foldl World.alloc W) := by
    intro os
    induction os with
    | nil => intro W h; exact h
    | cons o os ih => intro W h; exact ih _ (below_alloc h o)
  exact h os w (Below.refl _ _)
theorem lits_get : ∀ (os : List Obj) (w : World) (i : Nat) (h : i < os.length), (os.foldl World.alloc w).heap[w.heap.size + i]? = some os[i]
  | [], _, i, h => by simp at h
  | o :: os, w, i, h => by
    rw [List.foldl_cons]
    cases i with
    | zero =>
      have h1 := (lits_below (w.alloc o) os).block w.heap.size (by simp)
      rw [Nat.add_zero, h1]
      exact heap_alloc_new w o
    | succ i =>
      have := lits_get os (w.alloc o) i (by simpa using h)
      rw [World.size_alloc] at this
      rw [show w.heap.size + (i + 1) = w.heap.size + 1 + i by omega, this]; rfl
theorem C_ints_blk {W : World} {g : Nat} {xs : List Int} (h : W.heap[g]? = some (.cells (xs.map (Value.int .i64)).toArray 3 (0, 0))) (hm : xs.length ≤ 1000000000) : Kd.C KI W (some ⟨g, 0, none⟩) xs.length xs := by
  have := IntsAt.row (W := W) (base := 0) (cur := (xs.map (Value.int .i64)).toArray) (xs := xs) ⟨h, by simp, fun j hj => by simp [hj, rd_get xs j hj]⟩ (Nat.zero_le g) hm
  obtain ⟨A, c, e, _, hc⟩ := Kd.R_reads this
  injection e with e
  rw [e]; exact hc
theorem C_rows2_blk {W : World} {g : Nat} {A B : Option Addr} {c d : Nat} {xs ys : List Int} (hg : W.heap[g]? = some (.cells #[.slice A xs.length c, .slice B ys.length d] 25 (0, 0))) (h : Kd.C KI W A xs.length xs) (hc : xs.length ≤ c) (h' : Kd.C KI W B ys.length ys) (hd : ys.length ≤ d) :
    Kd.C KL W (some ⟨g, 0, none⟩) 2 [xs, ys] := by
  refine ⟨rfl, by omega, fun _ => ⟨_, rfl, fun j p hj => ?_⟩⟩
  match j, hj with
  | 0, hj =>
    obtain rfl : xs = p := by simpa using hj
    refine ⟨[.slice A xs.length c], rfl, ⟨A, c, rfl, hc, h⟩, fun i u hu => ?_⟩
    match i, hu with
    | 0, hu =>
      obtain rfl : Value.slice A xs.length c = u := by simpa using hu
      show World.cell? _ (Addr.add ⟨g, 0, none⟩ 0) = _
      rw [show Addr.add ⟨g, 0, none⟩ 0 = ⟨g, 0, none⟩ by simp [Addr.add], cell_of_row _ g _ _ _ _ hg]
      rfl
  | 1, hj =>
    obtain rfl : ys = p := by simpa using hj
    refine ⟨[.slice B ys.length d], rfl, ⟨B, d, rfl, hd, h'⟩, fun i u hu => ?_⟩
    match i, hu with
    | 0, hu =>
      obtain rfl : Value.slice B ys.length d = u := by simpa using hu
      show World.cell? _ (Addr.add ⟨g, 0, none⟩ 1) = _
      rw [show Addr.add ⟨g, 0, none⟩ 1 = ⟨g, 1, none⟩ by simp [Addr.add], cell_of_row _ g _ _ _ _ hg]
      rfl
theorem C_rels2_blk {W : World} {g : Nat} {A B A' B' : Option Addr} {c d c' d' : Nat} {r q : S39} (hg : W.heap[g]? = some (.cells #[.slice A r.f0.length c, .slice A' r.f1.length c', .slice B q.f0.length d, .slice B' q.f1.length d'] 39 (0, 0))) (h : RelRd W A c r.f0 A' c' r.f1) (h' : RelRd W B d q.f0 B' d' q.f1) :
    Kd.C k39 W (some ⟨g, 0, none⟩) 2 [r, q] := by
  refine ⟨rfl, by omega, fun _ => ⟨_, rfl, fun j p hj => ?_⟩⟩
  have ha : ∀ n, Addr.add ⟨g, 0, none⟩ n = ⟨g, n, none⟩ := fun n => by simp [Addr.add]; omega
  match j, hj with
  | 0, hj =>
    obtain rfl : r = p := by simpa using hj
    refine ⟨[.slice A r.f0.length c, .slice A' r.f1.length c'], rfl, k39_mk W r h.cap h.row h.cap2 h.rows, fun i u hu => ?_⟩
    have hi0 : i < 2 := (List.getElem?_eq_some_iff.1 hu).1
    rw [show (k39).sz = 2 from rfl, ha, cell_of_row _ g _ _ _ _ hg]
    match i, hi0 with
    | 0, _ => simpa using hu
    | 1, _ => simpa using hu
  | 1, hj =>
    obtain rfl : q = p := by simpa using hj
    refine ⟨[.slice B q.f0.length d, .slice B' q.f1.length d'], rfl, k39_mk W q h'.cap h'.row h'.cap2 h'.rows, fun i u hu => ?_⟩
    have hi0 : i < 2 := (List.getElem?_eq_some_iff.1 hu).1
    rw [show (k39).sz = 2 from rfl, ha, cell_of_row _ g _ _ _ _ hg]
    match i, hi0 with
    | 0, _ => simpa using hu
    | 1, _ => simpa using hu
end Go.Proofs.YtpimooejnpdlpaaGreatDoor.G

/- Layer 16's shape: what it makes, in plain words; what it holds between two rounds. -/
set_option linter.unusedVariables false
set_option linter.unusedSimpArgs false
namespace Go.Proofs.YtpimooejnpdlpaaGreatDoor.G
open Go.RowKit Go.Proofs.YtpimooejnpdlpaaGreatDoorW.PrintWords Go.Proofs.YtpimooejnpdlpaaGreatDoorW.PrintLast Go.Proofs.YtpimooejnpdlpaaGreatDoorW.PrintMore Go.Proofs.YtpimooejnpdlpaaGreatDoor.PRefs

/-! ### what it makes -/
def shS (l : List Int) : List Int := (l.take 3).foldl (fun s v => uni1 s (md v 6)) []
def shPar (i : Nat) (v : Int) : Int := if 0 < i then md v (i : Int) else -1
def shBags (l : List S41) : List (List Int) := (l.take 6).map fun p => shS p.f1
def shRels (l : List S41) : List S39 := (l.take 6).map fun p => ⟨shS p.f1, smallRows3 (shS p.f1).length p.f2⟩
def shPars (l : List S41) : List Int := (l.take 6).mapIdx fun i p => shPar i p.f0
theorem fold_len (l s : List Int) (q : Int) : (l.foldl (fun s v => uni1 s (md v q)) s).length ≤ s.length + l.length := by
  induction l generalizing s with
  | nil => exact Nat.le_refl _
  | cons a l ih =>
    rw [List.foldl_cons]
    have h1 := ih (uni1 s (md a q))
    have h2 := uni1_len s (md a q)
    rw [List.length_cons]; omega
theorem fold_props (q : Int) (hq : 0 < q) (l s : List Int) (hs : Rise s) (hp : ∀ x ∈ s, 0 ≤ x ∧ x < q) : Rise (l.foldl (fun s v => uni1 s (md v q)) s) ∧ ∀ x ∈ l.foldl (fun s v => uni1 s (md v q)) s, 0 ≤ x ∧ x < q := by
  induction l generalizing s with
  | nil => exact ⟨hs, hp⟩
  | cons a l ih =>
    rw [List.foldl_cons]
    refine ih _ (uni1_rise s _ hs) fun x hx => ?_
    rcases (uni1_mem s _ x).1 hx with h | h
    · exact hp x h
    · rw [h]; exact md_pos a q hq
theorem shS_len (l : List Int) : (shS l).length ≤ 3 := by
  have h := fold_len (l.take 3) [] 6
  have h2 : (l.take 3).length ≤ 3 := by simp; omega
  simp at h
  unfold shS; omega
theorem shS_rise (l : List Int) : Rise (shS l) := (fold_props 6 (by omega) (l.take 3) [] List.Pairwise.nil (by simp)).1
theorem shS_pos (l : List Int) : ∀ x ∈ shS l, 0 ≤ x ∧ x < 6 := (fold_props 6 (by omega) (l.take 3) [] List.Pairwise.nil (by simp)).2
theorem sm_sh (p : S41) : Sm (shS p.f1) (smallRows3 (shS p.f1).length p.f2) := by
  have h1 := shS_len p.f1
  have h2 := smallRows3_len (shS p.f1).length p.f2
  refine ⟨⟨⟨⟨shS_rise _, (right_pos (shS_rise _)).2 fun x hx => (shS_pos p.f1 x hx).1⟩, smallRows3_row _ _, smallRows3_up _ _⟩, by omega, by omega, small3_in _ _⟩, h1, h2⟩

/-! ### between two rounds -/
structure Shp (w W : World) (vB vP vO : Value) (bags : List (List Int)) (pars : List Int) (rels : List S39) : Prop where
  bel : Below w.heap.size w W
  res : W.heap[w.heap.size]? = some (.cells #[.slice none 0 0, .slice none 0 0] 27 (0, 0))
  box : W.heap[w.heap.size + 1]? = some (.cells #[vB, vP] 27 (0, 0))
  bags : Kd.N KL 25 W w.heap.size (fun k => w.heap.size + 1 < k ∧ some k ≠ vP.ownBlock ∧ some k ≠ vO.ownBlock) vB bags
  pars : Kd.R KI 3 W w.heap.size (fun k => w.heap.size + 1 < k ∧ some k ≠ vB.ownBlock ∧ some k ≠ vO.ownBlock) vP pars
  rels : Kd.N k39 39 W w.heap.size (fun k => w.heap.size + 1 < k ∧ some k ≠ vB.ownBlock ∧ some k ≠ vP.ownBlock) vO rels
section
variable {w W W1 : World} {vB vP vO v1 : Value} {bags : List (List Int)} {pars : List Int} {rels : List S39}
theorem Shp.step (h : Shp w W vB vP vO bags pars rels) (hb : Below W.heap.size W W1) : Shp w W1 vB vP vO bags pars rels :=
  ⟨below_then h.bel h.bel.size hb, (hb.block _ (Array.getElem?_eq_some_iff.1 h.res).1).trans h.res, (hb.block _ (Array.getElem?_eq_some_iff.1 h.box).1).trans h.box, Kd.N_below h.bags hb, Kd.R_below h.pars hb, Kd.N_below h.rels hb⟩
theorem Shp.lt (h : Shp w W vB vP vO bags pars rels) : w.heap.size + 1 < W.heap.size := (Array.getElem?_eq_some_iff.1 h.box).1
theorem Shp.ltB (h : Shp w W vB vP vO bags pars rels) (k : Nat) (hk : vB.ownBlock = some k) : k < W.heap.size := Kd.N_lt h.bags k hk
theorem Shp.ltP (h : Shp w W vB vP vO bags pars rels) (k : Nat) (hk : vP.ownBlock = some k) : k < W.heap.size := by
  obtain ⟨inner, ho⟩ := Kd.R_own h.pars
  exact own_lt ho k hk
theorem Shp.ltO (h : Shp w W vB vP vO bags pars rels) (k : Nat) (hk : vO.ownBlock = some k) : k < W.heap.size := Kd.N_lt h.rels k hk
/-- The block of a row that has grown is none of an elder one. -/
theorem own_new {W : World} {v v1 : Value} (hat : v1.ownBlock = v.ownBlock ∨ ∃ b, v1.ownBlock = some b ∧ W.heap.size ≤ b) {k : Nat} (h : some k ≠ v.ownBlock) (hk : k < W.heap.size) : some k ≠ v1.ownBlock := by
  rcases hat with e | ⟨b, e, hb⟩
  · rw [e]; exact h
  · rw [e]; intro he; have := Option.some.inj he; omega
theorem Shp.pushB {s : List Int} (h : Shp w W vB vP vO bags pars rels) (hN : Kd.N KL 25 W1 w.heap.size (fun k => w.heap.size + 1 < k ∧ some k ≠ vP.ownBlock ∧ some k ≠ vO.ownBlock) v1 (bags ++ [s])) (hb : Below w.heap.size w W1) (hg : W.grownBy W1 vB.ownBlock) (hat : v1.ownBlock = vB.ownBlock ∨ ∃ b, v1.ownBlock = some b ∧ W.heap.size ≤ b) :
    Shp w (W1.setCell ⟨w.heap.size + 1, 0, none⟩ v1) v1 vP vO (bags ++ [s]) pars rels := by
  have hlt := h.lt
  have h1 : W1.heap[w.heap.size + 1]? = some (.cells #[vB, vP] 27 (0, 0)) := (hg.block _ hlt (fun e => by have := h.bags.1 _ e.symm; omega)).trans h.box
  refine ⟨hb.setCell (p := ⟨w.heap.size + 1, 0, none⟩) (Nat.le_succ _) _, (Below.heap_setCell _ _ _ _ (by show w.heap.size ≠ w.heap.size + 1; omega)).trans ((hg.block _ (by omega) (fun e => by have := h.bags.1 _ e.symm; omega)).trans h.res), blk2_s0 h1 _, Kd.N_far hN (fun k hk => by have := hk.1; show k ≠ w.heap.size + 1; omega) _, ?_, ?_⟩
  · refine Kd.R_mono (Kd.R_far (Kd.R_grown (Kd.R_bound h.pars) hg (fun k hk => hk.1.2.1)) (p := ⟨w.heap.size + 1, 0, none⟩) (fun k hk => by have := hk.1.1; show k ≠ w.heap.size + 1; omega) v1) fun k hk => ⟨hk.1.1, own_new hat hk.1.2.1 hk.2.2.1, hk.1.2.2⟩
  · refine Kd.N_mono (Kd.N_far (Kd.N_grown (Kd.N_bound h.rels) hg (fun k hk => hk.1.2.1)) (p := ⟨w.heap.size + 1, 0, none⟩) (fun k hk => by have := hk.1.1; show k ≠ w.heap.size + 1; omega) v1) fun k hk => ⟨hk.1.1, own_new hat hk.1.2.1 hk.2, hk.1.2.2⟩
theorem Shp.pushP {q : Int} (h : Shp w W vB vP vO bags pars rels) (hN : Kd.R KI 3 W1 w.heap.size (fun k => w.heap.size + 1 < k ∧ some k ≠ vB.ownBlock ∧ some k ≠ vO.ownBlock) v1 (pars ++ [q])) (hb : Below w.heap.size w W1) (hg : W.grownBy W1 vP.ownBlock) (hat : v1.ownBlock = vP.ownBlock ∨ ∃ b, v1.ownBlock = some b ∧ W.heap.size ≤ b) :
    Shp w (W1.setCell ⟨w.heap.size + 1, 1, none⟩ v1) vB v1 vO bags (pars ++ [q]) rels := by
  have hlt := h.lt
  have h1 : W1.heap[w.heap.size + 1]? = some (.cells #[vB, vP] 27 (0, 0)) := (hg.block _ hlt (fun e => by have := h.pars.1 _ e.symm; omega)).trans h.box
  refine ⟨hb.setCell (p := ⟨w.heap.size + 1, 1, none⟩) (Nat.le_succ _) _, (Below.heap_setCell _ _ _ _ (by show w.heap.size ≠ w.heap.size + 1; omega)).trans ((hg.block _ (by omega) (fun e => by have := h.pars.1 _ e.symm; omega)).trans h.res), blk2_s1 h1 _, ?_, Kd.R_far hN (fun k hk => by have := hk.1; show k ≠ w.heap.size + 1; omega) _, ?_⟩
  · refine Kd.N_mono (Kd.N_far (Kd.N_grown (Kd.N_bound h.bags) hg (fun k hk => hk.1.2.1)) (p := ⟨w.heap.size + 1, 1, none⟩) (fun k hk => by have := hk.1.1; show k ≠ w.heap.size + 1; omega) v1) fun k hk => ⟨hk.1.1, own_new hat hk.1.2.1 hk.2, hk.1.2.2⟩
  · refine Kd.N_mono (Kd.N_far (Kd.N_grown (Kd.N_bound h.rels) hg (fun k hk => hk.1.2.2)) (p := ⟨w.heap.size + 1, 1, none⟩) (fun k hk => by have := hk.1.1; show k ≠ w.heap.size + 1; omega) v1) fun k hk => ⟨hk.1.1, hk.1.2.1, own_new hat hk.1.2.2 hk.2⟩
theorem Shp.pushO {r : S39} (h : Shp w W vB vP vO bags pars rels) (hN : Kd.N k39 39 W1 w.heap.size (fun k => w.heap.size + 1 < k ∧ some k ≠ vB.ownBlock ∧ some k ≠ vP.ownBlock) v1 (rels ++ [r])) (hb : Below w.heap.size w W1) (hg : W.grownBy W1 vO.ownBlock) (hat : v1.ownBlock = vO.ownBlock ∨ ∃ b, v1.ownBlock = some b ∧ W.heap.size ≤ b) :
    Shp w W1 vB vP v1 bags pars (rels ++ [r]) := by
  have hlt := h.lt
  have h1 : W1.heap[w.heap.size + 1]? = some (.cells #[vB, vP] 27 (0, 0)) := (hg.block _ hlt (fun e => by have := h.rels.1 _ e.symm; omega)).trans h.box
  refine ⟨hb, (hg.block _ (by omega) (fun e => by have := h.rels.1 _ e.symm; omega)).trans h.res, h1, ?_, ?_, hN⟩
  · refine Kd.N_mono (Kd.N_grown (Kd.N_bound h.bags) hg (fun k hk => hk.1.2.2)) fun k hk => ⟨hk.1.1, hk.1.2.1, own_new hat hk.1.2.2 hk.2⟩
  · refine Kd.R_mono (Kd.R_grown (Kd.R_bound h.pars) hg (fun k hk => hk.1.2.2)) fun k hk => ⟨hk.1.1, hk.1.2.1, own_new hat hk.1.2.2 hk.2.2.1⟩
end
theorem Shp.boxB {w W W1 : World} {vB vP vO : Value} {bags : List (List Int)} {pars : List Int} {rels : List S39} (h : Shp w W vB vP vO bags pars rels) (hg : W.grownBy W1 vB.ownBlock) : W1.heap[w.heap.size + 1]? = some (.cells #[vB, vP] 27 (0, 0)) :=
  (hg.block _ h.lt (fun e => by have := h.bags.1 _ e.symm; omega)).trans h.box
theorem Shp.boxP {w W W1 : World} {vB vP vO : Value} {bags : List (List Int)} {pars : List Int} {rels : List S39} (h : Shp w W vB vP vO bags pars rels) (hg : W.grownBy W1 vP.ownBlock) : W1.heap[w.heap.size + 1]? = some (.cells #[vB, vP] 27 (0, 0)) :=
  (hg.block _ h.lt (fun e => by have := h.pars.1 _ e.symm; omega)).trans h.box
/-- A row that was made from base on is kept where an elder row grows, and an elder box is turned. -/
theorem keepR {W W1 : World} {base g i : Nat} {v u x : Value} {xs : List Int} (h : Kd.R KI 3 W base AnyB v xs) (hg : W.grownBy W1 u.ownBlock) (hu : ∀ k, u.ownBlock = some k → k < base) (hgb : g < base) : Kd.R KI 3 (W1.setCell ⟨g, i, none⟩ x) base AnyB v xs :=
  Kd.R_mono (Kd.R_far (Kd.R_grown (Kd.R_bound h) hg (fun k hk e => by have := hu k e.symm; have := hk.2.1; omega)) (p := ⟨g, i, none⟩) (fun k hk => by have := hk.2.1; show k ≠ g; omega) x) (fun _ _ => trivial)
theorem keepN {W W1 : World} {base g i : Nat} {v u x : Value} {xs : List (List Int)} (h : Kd.N KL 25 W base (fun q => base ≤ q) v xs) (hg : W.grownBy W1 u.ownBlock) (hu : ∀ k, u.ownBlock = some k → k < base) (hgb : g < base) : Kd.N KL 25 (W1.setCell ⟨g, i, none⟩ x) base (fun q => base ≤ q) v xs :=
  Kd.N_far (Kd.N_grown h hg (fun k hk e => by have := hu k e.symm; have : base ≤ k := hk; omega)) (p := ⟨g, i, none⟩) (fun k hk => by have : base ≤ k := hk; show k ≠ g; omega) x
/-- What a relation that is to be put in leads to is none of the rows that were put into ahead of it. -/
theorem shape_step {w wo w2 w4 w5 wz : World} {vB vP vO v1 v3 : Value} {bags bags2 : List (List Int)} {pars pars2 : List Int} {rels : List S39} {A7 A11 : Option Addr} {c7 c11 : Nat} {s : List Int} {R : List (List Int)}
    (HS : Shp w wo vB vP vO bags pars rels) (h1 : v1.ownBlock = vB.ownBlock ∨ ∃ b, v1.ownBlock = some b ∧ wz.heap.size ≤ b) (hz2 : wz.heap.size ≤ w2.heap.size) (H1 : Shp w w2 v1 vP vO bags2 pars rels) (h3 : v3.ownBlock = vP.ownBlock ∨ ∃ b, v3.ownBlock = some b ∧ w2.heap.size ≤ b) (h24 : w2.heap.size ≤ w4.heap.size) (H3 : Shp w w4 v1 v3 vO bags2 pars2 rels) (_hz : w.heap.size ≤ wz.heap.size)
    (hs : Kd.R KI 3 w4 wo.heap.size AnyB (.slice A7 s.length c7) s) (hv : Kd.N KL 25 w5 w4.heap.size (fun q => w4.heap.size ≤ q) (.slice A11 R.length c11) R) (hc : R.length ≤ c11) (hb : Below w4.heap.size w4 w5) (hgw : w.heap.size + 1 < wo.heap.size) (hsx : ∀ q, some q = (Value.slice A7 s.length c7).ownBlock → q < wz.heap.size := by assumption) :
    Kd.F KI w5 (fun q => (wo.heap.size ≤ q ∧ q < w5.heap.size ∧ some q ≠ v1.ownBlock ∧ some q ≠ v3.ownBlock) ∨ w4.heap.size ≤ q) A7 s.length s ∧ Kd.F KL w5 (fun q => w4.heap.size ≤ q) A11 R.length R ∧ R.length ≤ c11 ∧ Shp w w5 v1 v3 vO bags2 pars2 rels ∧
    (∀ q, ((wo.heap.size ≤ q ∧ q < w5.heap.size ∧ some q ≠ v1.ownBlock ∧ some q ≠ v3.ownBlock) ∨ w4.heap.size ≤ q) → (w.heap.size + 1 < q ∧ some q ≠ v1.ownBlock ∧ some q ≠ v3.ownBlock) ∧ some q ≠ vO.ownBlock) ∧
    (∀ q, w5.heap.size ≤ q → w.heap.size + 1 < q ∧ some q ≠ v1.ownBlock ∧ some q ≠ v3.ownBlock) := by
  have hl := H3.lt
  have hb5 := hb.size
  refine ⟨?_, Kd.N_F hv, hc, H3.step hb, ?_, ?_⟩
  · have h0 : Kd.R KI 3 w4 wo.heap.size (fun q => (wo.heap.size ≤ q ∧ q < w5.heap.size ∧ some q ≠ v1.ownBlock ∧ some q ≠ v3.ownBlock) ∨ w4.heap.size ≤ q) (.slice A7 s.length c7) s := by
      obtain ⟨_, h00⟩ := Kd.R_bound hs
      refine ⟨fun q hq => ?_, hs.2⟩
      have hql := (Kd.R_bound hs).1 q hq
      refine .inl ⟨hql.2.1, by have := hql.2.2.1; omega, ?_, ?_⟩
      · refine own_new h1 (fun e => ?_) (hsx q hq.symm)
        have := HS.ltB q e.symm
        have := hql.2.1
        omega
      · refine own_new h3 (fun e => ?_) (by have := hsx q hq.symm; omega)
        have := HS.ltP q e.symm
        have := hql.2.1
        omega
    have h5 := Kd.R_below h0 hb
    intro W2 hW
    obtain ⟨A', c', e, _, hC⟩ := Kd.R_reads (Kd.R_step h5 (w1 := W2) (fun k hk hlt => hW k hk hlt))
    injection e with e1 e2 e3
    rw [e1]; exact hC
  · rintro q (hq | hq)
    · exact ⟨⟨by omega, hq.2.2.1, hq.2.2.2⟩, fun e => by have := HS.ltO q e.symm; have := hq.1; omega⟩
    · exact ⟨⟨by omega, fun e => by have := H3.ltB q e.symm; omega, fun e => by have := H3.ltP q e.symm; omega⟩, fun e => by have := H3.ltO q e.symm; omega⟩
  · intro q hq
    exact ⟨by omega, fun e => by have := H3.ltB q e.symm; omega, fun e => by have := H3.ltP q e.symm; omega⟩
end Go.Proofs.YtpimooejnpdlpaaGreatDoor.G
