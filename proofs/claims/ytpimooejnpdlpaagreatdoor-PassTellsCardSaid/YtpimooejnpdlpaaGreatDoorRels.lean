/- Rows of relations of the call's own: their block; a relation put in. -/
import Derived.Test.YtpimooejnpdlpaaGreatDoorMI
import Derived.Test.YtpimooejnpdlpaaGreatDoorMH
import Derived.Test.YtpimooejnpdlpaaGreatDoorSemi
set_option linter.unusedVariables false
set_option linter.unusedSimpArgs false
namespace Go.Proofs.YtpimooejnpdlpaaGreatDoor.G
open Go.RowKit Go.Proofs.YtpimooejnpdlpaaGreatDoorW.PrintWords Go.Proofs.YtpimooejnpdlpaaGreatDoorW.PrintLast Go.Proofs.YtpimooejnpdlpaaGreatDoorW.PrintMore Go.Proofs.YtpimooejnpdlpaaGreatDoor.PRefs

theorem infoRel : (Tryz.prog.info? 39).map (fun i => (i.zero, i.size, i.bytes)) = some (some (.agg #[.slice none 0 0, .slice none 0 0]), 2, 48) := by kernel_rfl

def madeRels (n : Nat) : Array Value := madeCells (Value.agg #[.slice none 0 0, .slice none 0 0]).cells (n * 2)
theorem madeRels_size (n : Nat) : (madeRels n).size = 2 * n := by simp [madeRels, madeCells]; omega
theorem make_rels (n : Nat) (h : n ≤ 1000000) (W : World) : (Instr.makeSlice 28 (.int .i64 (n : Int)) (.int .i64 (n : Int))).run Tryz.prog W = .ok (.slice (some ⟨W.heap.size, 0, none⟩) n n) (W.alloc (.cells (madeRels n) 39)) := by
  obtain ⟨i0, hi, hzz⟩ := Option.map_eq_some_iff.1 infoRel
  simp only [Prod.mk.injEq] at hzz
  obtain ⟨hz0, hz1, hz2⟩ := hzz
  have hr := run_make (P := Tryz.prog) W 28 39 i0 _ Tryz.underlying28 hi hz0 .i64 .i64 (n : Int) (n : Int) (by omega) (by omega)
    (by have h3 : ((i0.bytes * n : Nat) : Int) ≤ 281474976710656 := by rw [hz2]; omega
        rwa [Int.natCast_mul] at h3) (by omega)
  simp only [Int.toNat_natCast] at hr
  rw [hz1] at hr
  exact hr

/-- Relations in block g, of n places; what they lead to lies behind it. -/
structure RelsAt (W : World) (g : Nat) (cur : Array Value) (n : Nat) (l : List S39) : Prop where
  blk : W.heap[g]? = some (.cells cur 39 (0, 0))
  size : cur.size = 2 * n
  len : l.length ≤ n
  rel : ∀ j, j < l.length → RelM W (g + 1) (.agg #[cur[j * 2]!, cur[j * 2 + 1]!]) (sch l j, fam l j)
theorem RelsAt.cell {W : World} {g n : Nat} {cur : Array Value} {l : List S39} (h : RelsAt W g cur n l) (j : Nat) (hj : j < 2 * n) : W.cell? ⟨g, j, none⟩ = some cur[j]! := by
  rw [cell_of_row W g j cur _ _ h.blk]; simp [h.size, hj]
theorem RelsAt.frozen {W : World} {g n : Nat} {cur : Array Value} {l : List S39} (h : RelsAt W g cur n l) (j : Nat) : W.frozen? ⟨g, j, none⟩ = false := by simp [World.frozen?, h.blk]
theorem RelsAt.lt {W : World} {g n : Nat} {cur : Array Value} {l : List S39} (h : RelsAt W g cur n l) : g < W.heap.size := (Array.getElem?_eq_some_iff.1 h.blk).1
theorem RelsAt.keep {W W1 : World} {g n : Nat} {cur : Array Value} {l : List S39} (h : RelsAt W g cur n l) (hb : Below W.heap.size W W1) : RelsAt W1 g cur n l :=
  ⟨(hb.block _ h.lt).trans h.blk, h.size, h.len, fun j hj => (h.rel j hj).below hb⟩
theorem blk_set {W : World} {g t : Nat} {cs : Array Value} (h : W.heap[g]? = some (.cells cs t (0, 0))) (i : Nat) (u : Value) : (W.setCell ⟨g, i, none⟩ u).heap[g]? = some (.cells (cs.setIfInBounds i u) t (0, 0)) := blk_set1 h _ _
/-- Two cells of the block turned. -/
theorem two_get {cur : Array Value} {x y : Value} {k j : Nat} (hk : k * 2 + 1 < cur.size) : ((cur.setIfInBounds (k * 2) x).setIfInBounds (k * 2 + 1) y)[j]! = if j = k * 2 then x else if j = k * 2 + 1 then y else cur[j]! := by
  by_cases h1 : j = k * 2 + 1
  · subst h1
    rw [if_neg (by omega), if_pos rfl, get_set_eq _ _ _ (by rw [Array.size_setIfInBounds]; exact hk)]
  · rw [get_set_ne _ _ _ _ (fun e => h1 e.symm)]
    by_cases h2 : j = k * 2
    · subst h2; rw [if_pos rfl, get_set_eq _ _ _ (by omega)]
    · rw [if_neg h2, if_neg h1, get_set_ne _ _ _ _ (fun e => h2 e.symm)]
theorem RelsAt.put {W : World} {g n : Nat} {cur : Array Value} {l l' : List S39} {x y : Value} {k : Nat} (h : RelsAt W g cur n l) (hk : k < n) (hx : RelM W (g + 1) (.agg #[x, y]) (sch l' k, fam l' k)) (hl' : l'.length ≤ n)
    (ho : ∀ j, j < l'.length → j ≠ k → j < l.length ∧ sch l' j = sch l j ∧ fam l' j = fam l j) :
    RelsAt ((W.setCell ⟨g, k * 2, none⟩ x).setCell ⟨g, k * 2 + 1, none⟩ y) g ((cur.setIfInBounds (k * 2) x).setIfInBounds (k * 2 + 1) y) n l' := by
  have hs := h.size
  refine ⟨blk_set (blk_set h.blk _ _) _ _, by simp [hs], hl', fun j hj => ?_⟩
  rw [two_get (by omega), two_get (by omega)]
  by_cases hjk : j = k
  · subst hjk
    rw [if_pos rfl, if_neg (by omega), if_pos rfl]
    exact (hx.far (p := ⟨g, j * 2, none⟩) (Nat.lt_succ_self g) x).far (p := ⟨g, j * 2 + 1, none⟩) (Nat.lt_succ_self g) y
  · obtain ⟨h1, h2, h3⟩ := ho j hj hjk
    rw [if_neg (by omega), if_neg (by omega), if_neg (by omega), if_neg (by omega), h2, h3]
    exact ((h.rel j h1).far (p := ⟨g, k * 2, none⟩) (Nat.lt_succ_self g) x).far (p := ⟨g, k * 2 + 1, none⟩) (Nat.lt_succ_self g) y
/-- One relation more is in. -/
theorem sch_snoc (l : List S39) (r : S39) (j : Nat) : (j = l.length → sch (l ++ [r]) j = r.f0 ∧ fam (l ++ [r]) j = r.f1) ∧ (j < l.length → sch (l ++ [r]) j = sch l j ∧ fam (l ++ [r]) j = fam l j) := by
  unfold sch fam relAt
  refine ⟨fun e => ?_, fun e => ?_⟩
  · subst e; simp
  · simp [List.getElem?_append_left e]
theorem RelsAt.push {W : World} {g n : Nat} {cur : Array Value} {l : List S39} {x y : Value} {r : S39} {k : Nat} (h : RelsAt W g cur n l) (hk : l.length = k) (hlt : k < n) (hx : RelM W (g + 1) (.agg #[x, y]) (r.f0, r.f1)) :
    RelsAt ((W.setCell ⟨g, k * 2, none⟩ x).setCell ⟨g, k * 2 + 1, none⟩ y) g ((cur.setIfInBounds (k * 2) x).setIfInBounds (k * 2 + 1) y) n (l ++ [r]) := by
  have h0 := (sch_snoc l r k).1 hk.symm
  refine h.put hlt (by rw [h0.1, h0.2]; exact hx) (by simp; omega) fun j hj hne => ?_
  have hj' : j < l.length := by simp at hj; omega
  exact ⟨hj', (sch_snoc l r j).2 hj'⟩
/-- One relation in another one's place. -/
theorem RelsAt.turn {W : World} {g n : Nat} {cur : Array Value} {l : List S39} {x y : Value} {a b : Nat} (h : RelsAt W g cur n l) (ha : a < l.length) (hx : RelM W (g + 1) (.agg #[x, y]) (sch l a, semiRows (sch l a) (fam l a) (sch l b) (fam l b))) :
    RelsAt ((W.setCell ⟨g, a * 2, none⟩ x).setCell ⟨g, a * 2 + 1, none⟩ y) g ((cur.setIfInBounds (a * 2) x).setIfInBounds (a * 2 + 1) y) n (semiAt l a b) := by
  have hl := h.len
  have hf := semiAt_fam l a b ha
  have hs := semiAt_sch l a b
  refine h.put (by omega) (by rw [hs, hf, semiF_eq]; exact hx) (by rw [semiAt_len]; exact hl) fun j hj hne => ?_
  rw [semiAt_len] at hj
  exact ⟨hj, by rw [hs], by rw [hf, semiF_ne _ _ _ hne]⟩
/-- It reads as relations. -/
theorem RelsAt.reads {W : World} {g n : Nat} {cur : Array Value} {l : List S39} (h : RelsAt W g cur n l) (hm : n ≤ maxLen) : Kd.C k39 W (some ⟨g, 0, none⟩) l.length l := by
  refine ⟨rfl, by have := h.len; unfold maxLen at hm; omega, fun _ => ⟨_, rfl, fun j p hj => ?_⟩⟩
  have hjl := (List.getElem?_eq_some_iff.1 hj).1
  have hp : relAt l j = p := by rw [relAt_get l j hjl]; exact (List.getElem?_eq_some_iff.1 hj).2
  have hlen := h.len
  obtain ⟨A, c, A', c', e, hr⟩ := (h.rel j hjl).rd
  injection e with e
  injection e with e
  injection e with e1 e2
  injection e2 with e2 _
  have q0 := h.cell (j * 2) (by omega)
  have q1 := h.cell (j * 2 + 1) (by omega)
  rw [e1] at q0
  rw [e2] at q1
  simp only [sch, fam, hp] at q0 q1 hr
  refine ⟨[.slice A p.f0.length c, .slice A' p.f1.length c'], rfl, k39_mk W p hr.cap hr.row hr.cap2 hr.rows, fun i u hu => ?_⟩
  have hi0 : i < 2 := (List.getElem?_eq_some_iff.1 hu).1
  rw [show (k39).sz = 2 from rfl]
  have ha : ∀ i, Addr.add ⟨g, 0, none⟩ (j * 2 + i) = ⟨g, j * 2 + i, none⟩ := fun i => by simp [Addr.add]; omega
  rw [ha]
  match i, hi0 with
  | 0, _ =>
    have hu' : u = .slice A p.f0.length c := by simpa using hu.symm
    rw [hu']; exact q0
  | 1, _ =>
    have hu' : u = .slice A' p.f1.length c' := by simpa using hu.symm
    rw [hu']; exact q1
theorem RelM.but {W W' : World} {g : Nat} {v : Value} {r : List Int × List (List Int)} (h : RelM W (g + 1) v r) (hb : But W g W') : RelM W' (g + 1) v r := by
  obtain ⟨s0, s1, rfl, h0, h1⟩ := h
  exact ⟨s0, s1, rfl, Kd.R_step h0 (fun k hk hlt => hb.block k hlt (by have : g + 1 ≤ k := hk; omega)), Kd.N_step h1 (fun k hk hlt => hb.block k hlt (by have : g + 1 ≤ k := hk; omega))⟩
theorem RelsAt.spare {W : World} {g n : Nat} {cur : Array Value} {l : List S39} {x y : Value} {k : Nat} (h : RelsAt W g cur n l) (hk : l.length = k) (hlt : k < n) : ∃ cur', RelsAt ((W.setCell ⟨g, k * 2, none⟩ x).setCell ⟨g, k * 2 + 1, none⟩ y) g cur' n l := by
  have hs := h.size
  refine ⟨_, blk_set (blk_set h.blk _ _) _ _, by simp [hs], h.len, fun j hj => ?_⟩
  rw [two_get (by omega), two_get (by omega), if_neg (by omega), if_neg (by omega), if_neg (by omega), if_neg (by omega)]
  exact ((h.rel j hj).far (p := ⟨g, k * 2, none⟩) (Nat.lt_succ_self g) x).far (p := ⟨g, k * 2 + 1, none⟩) (Nat.lt_succ_self g) y
/-- A relation that stands behind those that are in. -/
theorem RelsAt.more {W : World} {g n : Nat} {cur : Array Value} {l : List S39} {r : S39} {k : Nat} (h : RelsAt W g cur n l) (hk : l.length = k) (hlt : k < n) (hx : RelM W (g + 1) (.agg #[cur[k * 2]!, cur[k * 2 + 1]!]) (r.f0, r.f1)) : RelsAt W g cur n (l ++ [r]) := by
  refine ⟨h.blk, h.size, by simp; omega, fun j hj => ?_⟩
  by_cases e : j = l.length
  · obtain ⟨e1, e2⟩ := (sch_snoc l r j).1 e
    rw [e1, e2, e, hk]; exact hx
  · have hj' : j < l.length := by simp at hj; omega
    obtain ⟨e1, e2⟩ := (sch_snoc l r j).2 hj'
    rw [e1, e2]; exact h.rel j hj'
/-- What a call answers: relations of its own. -/
def RelsM (W : World) (base : Nat) (v : Value) (l : List S39) : Prop := ∃ g cur, base ≤ g ∧ v = .slice (some ⟨g, 0, none⟩) l.length l.length ∧ RelsAt W g cur l.length l
end Go.Proofs.YtpimooejnpdlpaaGreatDoor.G
