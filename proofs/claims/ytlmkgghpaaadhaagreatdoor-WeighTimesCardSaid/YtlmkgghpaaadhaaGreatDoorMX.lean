/- Several texts of this claim in one. -/
import Derived.Test.YtlmkgghpaaadhaaGreatDoorMU
import Derived.Deep.DeepCutAuto
import Derived.Test.YtlmkgghpaaadhaaGreatDoorMV
import Derived.Test.YtlmkgghpaaadhaaGreatDoorWLast
/- weigh: a projection, and the weights of all that are cut to each row. -/
set_option linter.unusedVariables false
set_option linter.unusedSimpArgs false
namespace Go.Proofs.YtlmkgghpaaadhaaGreatDoor.G
open Go.RowKit Go.Proofs.YtlmkgghpaaadhaaGreatDoorW.PrintWords Go.Proofs.YtlmkgghpaaadhaaGreatDoorW.PrintLast Go.Proofs.YtlmkgghpaaadhaaGreatDoorW.PrintMore

theorem zip_take_succ {L : List (List Int)} {ws : List Int} {k : Nat} (hk : k < L.length) (hw : k < ws.length) : (L.take (k + 1)).zip ws = (L.take k).zip ws ++ [(L.getD k [], ws[k])] := by
  refine List.ext_getElem (by simp; omega) fun j h1 h2 => ?_
  rw [List.getElem_append]
  split
  · rename_i h3; simp
  · rename_i h3
    have e : j = k := by simp at h1 h3; omega
    subst e
    simp [List.getD_eq_getElem?_getD, List.getElem?_eq_getElem hk]
theorem zip_take_out {L : List (List Int)} {ws : List Int} {k : Nat} (hw : ws.length ≤ k) : (L.take (k + 1)).zip ws = (L.take k).zip ws := by
  refine List.ext_getElem (by simp; omega) fun j h1 h2 => ?_
  simp
theorem infoRow64 : (Tryz.prog.info? 24).map (fun i => (i.zero, i.size, i.bytes)) = some (some (.slice none 0 0), 1, 24) := by kernel_rfl
abbrev KLw : Kd (List Int) := Kd.slice 2 KI
/-- Rows of weights, each of its own, in a block of the call's own. -/
structure AllAt (W : World) (base g : Nat) (cur : Array Value) (xs : List (List Int)) : Prop where
  blk : W.heap[g]? = some (.cells cur 24 (0, 0))
  size : cur.size = xs.length
  row : ∀ j, j < xs.length → Kd.R KI 2 W base (fun k => base ≤ k) cur[j]! (xs.getD j [])
  apart : ∀ i j k, i < xs.length → j < xs.length → i ≠ j → (cur[i]!).ownBlock = some k → (cur[j]!).ownBlock ≠ some k
theorem AllAt.step {W W1 : World} {base g : Nat} {cur : Array Value} {xs : List (List Int)} (h : AllAt W base g cur xs) (hb : Below W.heap.size W W1) : AllAt W1 base g cur xs :=
  ⟨(hb.block _ (Array.getElem?_eq_some_iff.1 h.blk).1).trans h.blk, h.size, fun j hj => Kd.R_below (h.row j hj) hb, h.apart⟩
theorem AllAt.far {W : World} {base g : Nat} {cur : Array Value} {xs : List (List Int)} (h : AllAt W base g cur xs) {p : Addr} (hg : p.block < g) (hp : p.block < base) (u : Value) : AllAt (W.setCell p u) base g cur xs :=
  ⟨(Below.heap_setCell _ _ _ _ (by omega)).trans h.blk, h.size, fun j hj => Kd.R_far (h.row j hj) (fun q hq => by have h2 : base ≤ q := hq; omega) u, h.apart⟩
theorem AllAt.cell {W : World} {base g : Nat} {cur : Array Value} {xs : List (List Int)} (h : AllAt W base g cur xs) (j : Nat) (hj : j < xs.length) : W.cell? ⟨g, j, none⟩ = some cur[j]! := by
  rw [cell_of_row W g j cur _ _ h.blk]; simp [h.size, hj]
theorem AllAt.frozen {W : World} {base g : Nat} {cur : Array Value} {xs : List (List Int)} (h : AllAt W base g cur xs) (j : Nat) : W.frozen? ⟨g, j, none⟩ = false := by simp [World.frozen?, h.blk]
theorem AllAt.start {W : World} {g n base : Nat} (h : W.heap[g]? = some (.cells (madeCells #[.slice none 0 0] n) 24 (0, 0))) : AllAt W base g (madeCells #[.slice none 0 0] n) (List.replicate n []) := by
  have hc : ∀ j, j < n → (madeCells #[.slice none 0 0] n)[j]! = .slice none 0 0 := fun j hj => by
    rw [getElem!_pos _ j (by simp [madeCells]; exact hj)]; simp [madeCells, Nat.mod_one]
  refine ⟨h, by simp [madeCells], fun j hj => ?_, fun i j k hi hj hne he => ?_⟩
  · rw [List.length_replicate] at hj
    rw [hc j hj, show (List.replicate n ([] : List Int)).getD j [] = [] by simp [List.getD_eq_getElem?_getD, List.getElem?_replicate, hj]]
    exact Kd.R_nil _ _ _ _ _
  · rw [List.length_replicate] at hi
    rw [hc i hi] at he; cases he
/-- One row grown by a number, and stored again. -/
theorem AllAt.push {W w1 : World} {base g : Nat} {cur : Array Value} {xs : List (List Int)} {j : Nat} {v1 : Value} {ys : List Int} (h : AllAt W base g cur xs) (hj : j < xs.length) (hgb : g < base) (hg : W.grownBy w1 (cur[j]!).ownBlock)
    (hat : v1.ownBlock = (cur[j]!).ownBlock ∨ ∃ b, v1.ownBlock = some b ∧ W.heap.size ≤ b) (hR : Kd.R KI 2 w1 base (fun k => base ≤ k) v1 ys) : AllAt (w1.setCell ⟨g, j, none⟩ v1) base g (cur.setIfInBounds j v1) (xs.set j ys) := by
  have hjc : j < cur.size := by rw [h.size]; exact hj
  have hget : ∀ i, i < xs.length → (cur.setIfInBounds j v1)[i]! = if i = j then v1 else cur[i]! := fun i hi => by
    by_cases e : i = j
    · rw [if_pos e, e]; exact get_set_eq _ _ _ hjc
    · rw [if_neg e]; exact get_set_ne _ _ _ _ (fun e' => e e'.symm)
  have hown : ∀ i, i < xs.length → i ≠ j → ∀ k, (cur[i]!).ownBlock = some k → k < W.heap.size ∧ some k ≠ (cur[j]!).ownBlock := fun i hi hne k hk =>
    ⟨Kd.N_lt (Kd.R_N (h.row i hi)) k hk, fun e => h.apart i j k hi hj hne hk e.symm⟩
  have hbk : w1.heap[g]? = some (.cells cur 24 (0, 0)) := (hg.block g (Array.getElem?_eq_some_iff.1 h.blk).1 (fun e => by have h1 := (h.row j hj).1 g e.symm; have h2 : base ≤ g := h1; omega)).trans h.blk
  refine ⟨blk_set1 hbk j v1, by rw [Array.size_setIfInBounds, List.length_set]; exact h.size, fun i hi => ?_, fun i i' k hi hi' hne he => ?_⟩
  · rw [List.length_set] at hi
    rw [hget i hi]
    by_cases e : i = j
    · rw [if_pos e, e, show (xs.set j ys).getD j [] = ys by rw [List.getD_eq_getElem?_getD, List.getElem?_set_self hj]; rfl]
      exact Kd.R_far hR (p := ⟨g, j, none⟩) (fun q hq => by have h2 : base ≤ q := hq; show q ≠ g; omega) v1
    · rw [if_neg e, show (xs.set j ys).getD i [] = xs.getD i [] by rw [List.getD_eq_getElem?_getD, List.getD_eq_getElem?_getD, List.getElem?_set_ne (fun e' => e e'.symm)]]
      have h1 : Kd.R KI 2 W base (fun k => some k = (cur[i]!).ownBlock) cur[i]! (xs.getD i []) := Kd.R_tight rfl (h.row i hi)
      have h2 := Kd.R_step (Kd.R_bound h1) (fun k hk hlt => hg.block k hlt (fun e' => by have h3 := h.apart i j k hi hj e (hk.1.symm); exact h3 e'.symm))
      exact Kd.R_far (Kd.R_mono h2 (fun k hk => hk.2.1)) (p := ⟨g, j, none⟩) (fun q hq => by have h2 : base ≤ q := hq; show q ≠ g; omega) v1
  · rw [List.length_set] at hi hi'
    rw [hget i hi] at he
    rw [hget i' hi']
    by_cases e : i = j
    · rw [if_pos e] at he
      rw [if_neg (fun e' => hne (e.trans e'.symm))]
      intro hk
      have h3 := hown i' hi' (fun e' => hne (e.trans e'.symm)) k hk
      rcases hat with h1 | ⟨b, h1, h2⟩
      · rw [he] at h1; exact h3.2 h1
      · rw [he] at h1; have := Option.some.inj h1; omega
    · rw [if_neg e] at he
      by_cases e' : i' = j
      · rw [if_pos e']
        intro hk
        have h3 := hown i hi e k he
        rcases hat with h1 | ⟨b, h1, h2⟩
        · rw [hk] at h1; exact h3.2 h1
        · rw [hk] at h1; have := Option.some.inj h1; omega
      · rw [if_neg e']; exact h.apart i i' k hi hi' hne he
theorem AllAt.reads {W : World} {base g : Nat} {cur : Array Value} {xs : List (List Int)} (h : AllAt W base g cur xs) (hm : xs.length ≤ 1000000000) : Kd.C KLw W (some ⟨g, 0, none⟩) xs.length xs := by
  refine ⟨rfl, by omega, fun _ => ⟨_, rfl, fun j p hj => ?_⟩⟩
  obtain ⟨hlt, rfl⟩ := List.getElem?_eq_some_iff.1 hj
  have hr := h.row j hlt
  rw [List.getD_eq_getElem?_getD, List.getElem?_eq_getElem hlt] at hr
  obtain ⟨A, c, e, hl, hC⟩ := Kd.R_reads hr
  refine ⟨[cur[j]!], rfl, ⟨A, c, by rw [e]; rfl, hl, hC⟩, fun i u hu => ?_⟩
  match i, hu with
  | 0, hu =>
    obtain rfl : cur[j]! = u := by simpa using hu
    have := h.cell j hlt
    show W.cell? (Addr.add ⟨g, 0, none⟩ (j * 1 + 0)) = some cur[j]!
    rw [Nat.mul_one, Nat.add_zero]
    unfold Addr.add
    split
    · rename_i h0
      rw [h0] at this ⊢
      exact this
    · simpa using this

/-- The weights of the rows that are cut to the row at j. -/
def collect (sc : List Int) (L : List (List Int)) (ws : List Int) (on : List Int) (R : List (List Int)) (j : Nat) : List Int :=
  ((L.zip ws).filter fun p => decide (pick p.1 (on.map (idx sc)) ∈ R ∧ pos R (pick p.1 (on.map (idx sc))) = j)).map Prod.snd
def partedTo (a : WRel) (on : List Int) (R : List (List Int)) : List (List Int) := (List.range R.length).map (collect a.sc a.L a.ws on R)
theorem collect_no {sc : List Int} {L : List (List Int)} {ws on : List Int} {R : List (List Int)} {k : Nat} (hk : k < L.length) (h : ¬ (pick (L.getD k []) (on.map (idx sc)) ∈ R ∧ k < ws.length)) (j : Nat) : collect sc (L.take (k + 1)) ws on R j = collect sc (L.take k) ws on R j := by
  unfold collect
  by_cases hw : k < ws.length
  · have hno : pick (L.getD k []) (on.map (idx sc)) ∉ R := fun h' => h ⟨h', hw⟩
    have hz : (L.take (k + 1)).zip ws = (L.take k).zip ws ++ [(L.getD k [], ws[k])] := zip_take_succ hk hw
    rw [hz, List.filter_append, List.map_append]
    generalize L.getD k [] = x at hno ⊢
    simp [List.filter_cons, hno]
  · rw [zip_take_out (by omega)]
theorem collect_yes {sc : List Int} {L : List (List Int)} {ws on : List Int} {R : List (List Int)} {k : Nat} (hk : k < L.length) (hin : pick (L.getD k []) (on.map (idx sc)) ∈ R) (hw : k < ws.length) (j : Nat) :
    collect sc (L.take (k + 1)) ws on R j = if pos R (pick (L.getD k []) (on.map (idx sc))) = j then collect sc (L.take k) ws on R j ++ [rd ws k] else collect sc (L.take k) ws on R j := by
  unfold collect
  have hz : (L.take (k + 1)).zip ws = (L.take k).zip ws ++ [(L.getD k [], ws[k])] := zip_take_succ hk hw
  rw [hz, List.filter_append, List.map_append, rd_get ws k hw]
  clear hz
  generalize L.getD k [] = x at hin ⊢
  split
  · rename_i h; simp [List.filter_cons, hin, h]
  · rename_i h; simp [List.filter_cons, h]
theorem set_range {α : Type} [Inhabited α] (n p : Nat) (f f' : Nat → α) (hp : p < n) (hne : ∀ j, j ≠ p → f' j = f j) : ((List.range n).map f).set p (f' p) = (List.range n).map f' := by
  refine List.ext_getElem (by simp) fun j h1 h2 => ?_
  rw [List.getElem_set]
  simp only [List.getElem_map, List.getElem_range]
  split
  · rename_i e; rw [e]
  · rename_i e; exact (hne j (fun e' => e e'.symm)).symm
theorem pos_lt {R : List (List Int)} {t : List Int} (h : t ∈ R) : pos R t < R.length := by
  refine Nat.lt_of_le_of_ne List.countP_le_length fun e => ?_
  have := List.countP_eq_length.1 e t h
  simp only [decide_eq_true_eq] at this
  exact Pl.lt_irrefl t this
/-- All the weights, behind k rows. -/
def colls (sc : List Int) (L : List (List Int)) (ws : List Int) (on : List Int) (R : List (List Int)) (k : Nat) : List (List Int) := (List.range R.length).map (collect sc (L.take k) ws on R)
theorem colls_len (sc : List Int) (L : List (List Int)) (ws on : List Int) (R : List (List Int)) (k : Nat) : (colls sc L ws on R k).length = R.length := by simp [colls]
theorem colls_zero (sc : List Int) (L : List (List Int)) (ws on : List Int) (R : List (List Int)) : colls sc L ws on R 0 = List.replicate R.length [] := by
  refine List.ext_getElem (by simp [colls]) fun j h1 h2 => ?_
  simp [colls, collect]
theorem colls_all (a : WRel) (on : List Int) (R : List (List Int)) : colls a.sc a.L a.ws on R a.L.length = partedTo a on R := by
  rw [colls, List.take_length]; rfl
theorem colls_no {sc : List Int} {L : List (List Int)} {ws on : List Int} {R : List (List Int)} {k : Nat} (hk : k < L.length) (h : ¬ (pick (L.getD k []) (on.map (idx sc)) ∈ R ∧ k < ws.length)) : colls sc L ws on R (k + 1) = colls sc L ws on R k := by
  unfold colls
  refine List.map_congr_left fun j _ => collect_no hk h j
theorem colls_get (sc : List Int) (L : List (List Int)) (ws on : List Int) (R : List (List Int)) (k j : Nat) (hj : j < R.length) : (colls sc L ws on R k).getD j [] = collect sc (L.take k) ws on R j := by
  rw [List.getD_eq_getElem?_getD, List.getElem?_eq_getElem (by rw [colls_len]; exact hj)]
  simp [colls]
theorem colls_yes {sc : List Int} {L : List (List Int)} {ws on : List Int} {R : List (List Int)} {k : Nat} (hk : k < L.length) (hin : pick (L.getD k []) (on.map (idx sc)) ∈ R) (hw : k < ws.length) :
    colls sc L ws on R (k + 1) = (colls sc L ws on R k).set (pos R (pick (L.getD k []) (on.map (idx sc)))) ((colls sc L ws on R k).getD (pos R (pick (L.getD k []) (on.map (idx sc)))) [] ++ [rd ws k]) := by
  have hp := pos_lt hin
  have h1 := collect_yes (sc := sc) (on := on) hk hin hw
  rw [colls_get _ _ _ _ _ _ _ hp]
  have h2 := set_range R.length (pos R (pick (L.getD k []) (on.map (idx sc)))) (collect sc (L.take k) ws on R) (collect sc (L.take (k + 1)) ws on R) hp (fun j hj => by rw [h1 j, if_neg (fun e => hj e.symm)])
  rw [h1, if_pos rfl] at h2
  exact h2.symm
theorem colls_row (sc : List Int) (L : List (List Int)) (ws on : List Int) (R : List (List Int)) (k j : Nat) (hj : j < R.length) : ((colls sc L ws on R k).getD j []).length ≤ L.length := by
  rw [colls_get _ _ _ _ _ _ _ hj]
  unfold collect
  rw [List.length_map]
  refine Nat.le_trans (List.length_filter_le _ _) ?_
  rw [List.length_zip, List.length_take]
  omega
theorem AllAt.after {W w1 : World} {base g : Nat} {cur : Array Value} {xs : List (List Int)} {j : Nat} (h : AllAt W base g cur xs) (hj : j < xs.length) (hgb : g < base) (hg : W.grownBy w1 (cur[j]!).ownBlock) : w1.heap[g]? = some (.cells cur 24 (0, 0)) :=
  (hg.block g (Array.getElem?_eq_some_iff.1 h.blk).1 (fun e => by have h1 := (h.row j hj).1 g e.symm; have h2 : base ≤ g := h1; omega)).trans h.blk
end Go.Proofs.YtlmkgghpaaadhaaGreatDoor.G

/- weigh.parted, walked. -/
set_option linter.unusedVariables false
set_option linter.unusedSimpArgs false
namespace Go.Proofs.YtlmkgghpaaadhaaGreatDoor.G
open Go.RowKit Go.Proofs.YtlmkgghpaaadhaaGreatDoorW.PrintWords Go.Proofs.YtlmkgghpaaadhaaGreatDoorW.PrintLast Go.Proofs.YtlmkgghpaaadhaaGreatDoorW.PrintMore

theorem app_w_step {ops : Array Oper} {o : Oper} {a : Act} {Q : Exit → Act → World → Prop} {Kc : Act → World → Prop} {w W : World} (base : Nat) (ok : Nat → Prop) (hw : Region.wanted o (yielded ops a.tmps) = true) (s x : Operand) (ho : o.op = .call { callee := .builtin .append, args := #[s, x], argTypes := #[24, 24] })
    (v : Value) (xs : List Int) (y : Int) (hs : a.eval s = v) (hx : a.eval x = .slice (some ⟨W.heap.size, 0, none⟩) 1 1) (hok : ∀ k, W.heap.size ≤ k → ok k)
    (HO : Kd.R KI 2 W base ok v xs) (HB : Below base w W) (hbase : base ≤ W.heap.size) (hl : xs.length < 17592186044416)
    (h : ∀ v1 w1, Aside0 (Kd.R KI 2 w1 base ok v1 (xs ++ [y])) → Aside0 (Below base w w1) → Aside0 (W.grownBy w1 v.ownBlock ∧ (v1.ownBlock = v.ownBlock ∨ ∃ b, v1.ownBlock = some b ∧ W.heap.size ≤ b)) → Kc (a.put o.dst v1) w1) :
    if Region.wanted o (yielded ops a.tmps) = true then Oper.wp Tryz.prog o a (W.alloc (.cells #[.int .i64 y] 2)) Kc Q else Kc (a.put o.dst undef) (W.alloc (.cells #[.int .i64 y] 2)) :=
  Kd.R_append_step KI base hw s x 24 2 (.int .i64 0) 8 ho Tryz.underlying24 infoInt64 rfl (by decide) (by omega) v xs y [.int .i64 y] ok (fun _ => False) hs hx rfl (fun _ hk => hk.elim) hok
    HO HB hbase (by omega) (fun v1 w1 ho hb hg hat => h v1 w1 ⟨ho⟩ ⟨hb⟩ ⟨hg, hat⟩)

section
variable {A : Option Addr} {c : Nat} {A' : Option Addr} {c' : Nat} {Aw : Option Addr} {cw : Nat} {a : WRel} {Av : Option Addr} {cv : Nat} {vars : List Int} {w : World}
set_option maxHeartbeats 8000000 in
set_option maxRecDepth 100000 in
theorem parted_any (h : WRd w A c a.sc A' c' a.L Aw cw a.ws) (hv : Kd.C KI w Av vars.length vars) (hm : a.sc.length ≤ 1000000) (hm1 : a.L.length ≤ 1000000) (hm2 : vars.length ≤ 1000000) {on : List Int} {R : List (List Int)} (hP : projRel a.sc a.L vars = (on, R)) (ho : Ord R) (hol : on.length ≤ 1000000) (hRl : R.length ≤ 1000000) :
    Calls Tryz.prog 50 #[.agg #[.slice A a.sc.length c, .slice A' a.L.length c', .slice Aw a.ws.length cw], .slice Av vars.length cv] w fun e w' => ∃ A2 c2 A3 c3 A4 c4, e = .returned (.tuple #[.agg #[.slice A2 on.length c2, .slice A3 R.length c3], .slice A4 R.length c4]) ∧ RelM w' w.heap.size (.agg #[.slice A2 on.length c2, .slice A3 R.length c3]) (on, R) ∧ Kd.C KLw w' A4 R.length (partedTo a on R) ∧ R.length ≤ c4 ∧ Below w.heap.size w w' := by
  have HR := Aside0.mk (And.intro h (And.intro hv ho))
  have HPJ := Aside0.mk (show ∀ (W : World), Kd.C KI W A a.sc.length a.sc → Kd.C KL W A' a.L.length a.L → Kd.C KI W Av vars.length vars → Calls Tryz.prog 73 #[.agg #[.slice A a.sc.length c, .slice A' a.L.length c'], .slice Av vars.length cv] W fun e w' => ∃ A2 c2 A3 c3, e = .returned (.agg #[.slice A2 on.length c2, .slice A3 R.length c3]) ∧ RelM w' W.heap.size (.agg #[.slice A2 on.length c2, .slice A3 R.length c3]) (on, R) ∧ Below W.heap.size W w' from fun W h0 h1 h2 => by
    refine (project_any A c a.sc A' c' a.L Av cv vars W h0 h.rel.cap h1 h2 (by omega) (by omega) (by omega)).mono ?_
    rintro e w' ⟨v, rfl, hM, hb⟩
    rw [hP] at hM
    obtain ⟨A2, c2, A3, c3, rfl, hM⟩ := hM.of
    exact ⟨A2, c2, A3, c3, rfl, hM, hb⟩)
  obtain ⟨W0, hW0⟩ : ∃ W0, (w.alloc (.cells #[.slice A a.sc.length c, .slice A' a.L.length c', .slice Aw a.ws.length cw] 37)).alloc (.cells #[.slice none 0 0, .slice none 0 0] 31) = W0 := ⟨_, rfl⟩
  have hb0 : Below w.heap.size w W0 := by rw [← hW0]; exact below_alloc (below_alloc (Below.refl _ _) _) _
  have hk0 : W0.heap[w.heap.size]? = some (.cells #[.slice A a.sc.length c, .slice A' a.L.length c', .slice Aw a.ws.length cw] 37 (0, 0)) := by rw [← hW0]; exact (Below.heap_alloc _ _ _ (by simp)).trans (heap_alloc_new w _)
  have hz0 : W0.heap[w.heap.size + 1]? = some (.cells #[.slice none 0 0, .slice none 0 0] 31 (0, 0)) := by rw [← hW0]; have := heap_alloc_new (w.alloc (.cells #[.slice A a.sc.length c, .slice A' a.L.length c', .slice Aw a.ws.length cw] 37)) (.cells #[.slice none 0 0, .slice none 0 0] 31); rwa [World.size_alloc] at this
  have hs0 : W0.heap.size = w.heap.size + 2 := by rw [← hW0]; simp
  have H0 := Aside0.mk (And.intro hb0 (And.intro hk0 (And.intro hz0 hs0)))
  obtain ⟨q0, q1, q2⟩ := blk3_c hk0
  clear h hv hP ho hb0 hk0 hz0 hs0
  go_enter Tryz.func50, Tryz.ntmps50
  go_upto_region 2 with (go_at_call 73; refine (HPJ.out _ (Kd.C_below HR.out.1.rel.row H0.out.1) (Kd.C_below HR.out.1.rel.rows H0.out.1) (Kd.C_below HR.out.2.1 H0.out.1)).mono ?_; rintro e w1 ⟨A2, c2, A3, c3, rfl, hM, hb1⟩; have HM := Aside0.mk (And.intro hM hb1); clear hM hb1)
  clear hW0 q0 q1 q2
  obtain ⟨W1, hW1⟩ : ∃ W1, w1.alloc (.cells #[.slice A2 on.length c2, .slice A3 R.length c3] 31) = W1 := ⟨_, rfl⟩
  have hr1 : W1.heap[w1.heap.size]? = some (.cells #[.slice A2 on.length c2, .slice A3 R.length c3] 31 (0, 0)) := by rw [← hW1]; exact heap_alloc_new w1 _
  have hb1 : Below w1.heap.size w1 W1 := by rw [← hW1]; exact below_alloc (Below.refl _ _) _
  have H1 := Aside0.mk (And.intro (below_then HM.out.2 HM.out.2.size hb1) (And.intro hr1 (HM.out.1.below hb1)))
  have hrl : W1.heap.size = w1.heap.size + 1 := by rw [← hW1]; simp
  have HS1 := Aside0.mk (And.intro hrl HM.out.2.size)
  rw [hW1]
  obtain ⟨g6, hg6⟩ : ∃ g, w1.heap.size = g := ⟨_, rfl⟩
  rw [hg6] at H1 HS1 ⊢
  clear hr1 hb1 hrl hW1 HM hg6
  have hmk1 := fun W => run_make_row' (P := Tryz.prog) 22 3 (.int .i64 0) 8 Tryz.underlying22 infoInt rfl .i64 .i64 on.length (by omega) (by omega) W
  have hmk2 := fun W => run_make_row' (P := Tryz.prog) 95 24 (.slice none 0 0) 24 Tryz.underlying95 infoRow64 rfl .i64 .i64 R.length (by omega) (by omega) W
  go_cut [7, 8] (fun s7 s8 W => ∃ (g7 g8 : Nat), s7 = .slice (some ⟨g7, 0, none⟩) on.length on.length ∧ s8 = .slice (some ⟨g8, 0, none⟩) R.length R.length ∧ Aside0 (Below W1.heap.size W1 W ∧ W1.heap.size ≤ g7 ∧ W1.heap.size ≤ g8 ∧ W.heap[g7]? = some (.cells (madeCells #[.int .i64 0] on.length) 3 (0, 0)) ∧ W.heap[g8]? = some (.cells (madeCells #[.slice none 0 0] R.length) 24 (0, 0))))
  case first =>
    have r0 := blk2_c0 H1.out.2.1
    have r1 := blk2_c1 H1.out.2.1
    have HSD := Aside0.mk (show W1.drew.cell? ⟨g6, 0, none⟩ = some (.slice A2 on.length c2) ∧ W1.drew.cell? ⟨g6, 1, none⟩ = some (.slice A3 R.length c3) ∧ Below W1.heap.size W1 W1.drew from ⟨r0, r1, below_drew (Below.refl _ _)⟩)
    have HST := Aside0.mk (show ∀ {W W' : World}, (W.cell? ⟨g6, 0, none⟩ = some (.slice A2 on.length c2) ∧ W.cell? ⟨g6, 1, none⟩ = some (.slice A3 R.length c3) ∧ Below W1.heap.size W1 W) → Below W.heap.size W W' → (W'.cell? ⟨g6, 0, none⟩ = some (.slice A2 on.length c2) ∧ W'.cell? ⟨g6, 1, none⟩ = some (.slice A3 R.length c3) ∧ Below W1.heap.size W1 W') from fun {W W'} h hb => ⟨(hb.cell (World.block_lt_of_cell? W _ h.1)).trans h.1, (hb.cell (World.block_lt_of_cell? W _ h.2.1)).trans h.2.1, below_then h.2.2 h.2.2.size hb⟩)
    go_region_held3 (fun W => W.cell? ⟨g6, 0, none⟩ = some (.slice A2 on.length c2) ∧ W.cell? ⟨g6, 1, none⟩ = some (.slice A3 R.length c3) ∧ Below W1.heap.size W1 W)
      (first | with_reducible exact HSD.out | with_reducible exact HST.out (by assumption) (below_alloc (Below.refl _ _) _) | with_reducible exact HST.out HSD.out (below_alloc (Below.refl _ _) _) | with_reducible exact HST.out (HST.out HSD.out (below_alloc (Below.refl _ _) _)) (below_alloc (Below.refl _ _) _))
      (fail)
    all_goals
      first
      | ((try (go_wp2_with fail)); go_meet; case rel => exact ⟨W1.heap.size, W1.heap.size + 1, rfl, rfl, ⟨below_drew (below_alloc (below_alloc (Below.refl _ _) _) _), Nat.le_refl _, Nat.le_succ _, blk_two1 W1 (.cells (madeCells #[.int .i64 0] on.length) 3) (.cells (madeCells #[.slice none 0 0] R.length) 24), blk_two2 W1 (.cells (madeCells #[.int .i64 0] on.length) 3) (.cells (madeCells #[.slice none 0 0] R.length) 24)⟩⟩)
      | ((try (go_wp2_with fail)); go_meet; case rel => exact ⟨W1.heap.size + 1, W1.heap.size, rfl, rfl, ⟨below_drew (below_alloc (below_alloc (Below.refl _ _) _) _), Nat.le_succ _, Nat.le_refl _, blk_two2 W1 (.cells (madeCells #[.slice none 0 0] R.length) 24) (.cells (madeCells #[.int .i64 0] on.length) 3), blk_two1 W1 (.cells (madeCells #[.slice none 0 0] R.length) 24) (.cells (madeCells #[.int .i64 0] on.length) 3)⟩⟩)
  case rest =>
    obtain ⟨g7, g8, rfl, rfl, HC⟩ := hcut
    clear hmk1 hmk2
    rename World => wc
    have hI0 : IntsAt wc g7 (madeCells #[.int .i64 0] on.length) (on.map (idx a.sc)) 0 := ⟨HC.out.2.2.2.1, by simp [madeCells], fun j hj => by omega⟩
    have HL0 := Aside0.mk (And.intro HC.out.1 (And.intro hI0 HC.out.2.2.2.2))
    have HGG := Aside0.mk (And.intro HC.out.2.1 HC.out.2.2.1)
    have HWW := Aside0.mk (show w.heap.size + 1 < W1.heap.size ∧ g6 < W1.heap.size ∧ w.heap.size + 1 < g6 from by have h1 := H0.out.2.2.2; have h2 := HS1.out.1; have h3 := HS1.out.2; omega)
    have hs0 := H0.out.2.2.2
    have HX1 := Aside0.mk (And.intro ((H1.out.1.block w.heap.size (by omega)).trans H0.out.2.1) ((H1.out.1.block (w.heap.size + 1) (by omega)).trans H0.out.2.2.1))
    clear hs0
    have HW1 := Aside0.mk (below_then H0.out.1 H0.out.1.size H1.out.1)
    have hq0 := blk2_c0 ((HC.out.1.block _ HWW.out.2.1).trans H1.out.2.1)
    clear hI0 HC
    go_wp2
    clear hq0
    go_loopw [30] (fun i W => ∃ (k : Nat) (cur : Array Value), k ≤ on.length ∧ i = .int .i64 k ∧ Aside0 (Below W1.heap.size W1 W ∧ IntsAt W g7 cur (on.map (idx a.sc)) k ∧ W.heap[g8]? = some (.cells (madeCells #[.slice none 0 0] R.length) 24 (0, 0)))) (fun i _ => on.length - (intOf i).toNat)
    case atStart => exact ⟨0, _, Nat.zero_le _, rfl, HL0⟩
    case round =>
      clear HL0
      obtain ⟨k, cur, hk, rfl, HL⟩ := hrel
      have HBW := Aside0.mk (below_then HW1.out HW1.out.size HL.out.1)
      have hbx := (HL.out.1.block w.heap.size (by have := HWW.out.1; omega)).trans HX1.out.1
      obtain ⟨p0, p1, p2⟩ := blk3_c hbx
      clear hbx
      by_cases hlt : k < on.length
      · obtain ⟨ad, rfl, hx⟩ := at_int' H1.out.2.2.rd'.row HL.out.1 k (show (0 : Int) ≤ (k : Int) by omega) (show (k : Int) < (on.length : Int) by omega)
        simp only [Int.toNat_natCast] at hx
        have hcell := HL.out.2.1.cell k (by simpa using hlt)
        have hfr := HL.out.2.1.frozen k
        have hkl : (k : Int) < (on.length : Int) := by omega
        have hcl : ∀ x, Calls Tryz.prog 74 #[.slice A a.sc.length c, .int .i64 x] wr fun e w' => e = .returned (.int .i64 (idx a.sc x)) ∧ wr = w' := fun x => slices_Index_any A c a.sc x wr (Kd.C_below HR.out.1.rel.row HBW.out)
        have hrm := Aside0.mk (rd_map on (idx a.sc) k hlt)
        have hml := Aside0.mk (show k < (on.map (idx a.sc)).length by simpa using hlt)
        have HNE := Aside0.mk (show g8 ≠ g7 from fun e => by
          have h1 := HL.out.2.2
          rw [e, HL.out.2.1.blk] at h1
          have h2 := Option.some.inj h1
          injection h2 with _ h3 _
          exact absurd h3 (by decide))
        go_wp2_with (go_at_call 74; refine (hcl _).mono ?_; rintro e w3 ⟨rfl, rfl⟩)
        go_roundw
        case measure => simp [intOf]; omega
        case rel =>
          refine ⟨k + 1, cur.setIfInBounds k (.int .i64 (idx a.sc (rd on k))), by omega, by go_num, ⟨HL.out.1.setCell (p := ⟨g7, k, none⟩) HGG.out.1 _, ?_, ?_⟩⟩
          · rw [← hrm.out]; exact HL.out.2.1.push hml.out
          · exact (Below.heap_setCell _ _ _ _ HNE.out).trans HL.out.2.2
      · have hke : k = on.length := by omega
        subst hke
        obtain ⟨ps, hps⟩ : ∃ ps, on.map (idx a.sc) = ps := ⟨_, rfl⟩
        have hpl : ps.length = on.length := by rw [← hps, List.length_map]
        have hRR := IntsAt.row (base := W1.heap.size) (xs := on.map (idx a.sc)) (by simpa using HL.out.2.1) HGG.out.1 (by simpa using (by omega : on.length ≤ 1000000000))
        rw [hps] at hRR
        have hRT := Kd.R_types hRR HL.out.2.2 (int_ty _ (by decide))
        have HPS := Aside0.mk hps
        have HPR := Aside0.mk hRT
        have HPL := Aside0.mk hpl
        have HA0 := Aside0.mk (AllAt.start (base := wr.heap.size) HL.out.2.2)
        have hg8 := (Array.getElem?_eq_some_iff.1 HL.out.2.2).1
        have HG8 := Aside0.mk hg8
        have HB2 := Aside0.mk HL.out.1
        have HBW2 := Aside0.mk HBW.out
        clear hps hpl hRR hRT HL HBW hg8
        go_wp2
        clear p0 p1 p2
        rename World => w2
        have HZ0 := Aside0.mk (show AllAt w2 w2.heap.size g8 (madeCells #[.slice none 0 0] R.length) (colls a.sc a.L a.ws on R 0) from by rw [colls_zero]; exact HA0.out)
        have HGB := Aside0.mk (show W1.heap.size ≤ w2.heap.size ∧ w.heap.size ≤ w2.heap.size ∧ w.heap.size ≤ g8 from ⟨HB2.out.size, HBW2.out.size, Nat.le_trans (Nat.le_of_lt (Nat.lt_trans (Nat.lt_succ_self _) HWW.out.1)) HGG.out.2⟩)
        clear HA0
        go_loopw [48] (fun i W => ∃ (k : Nat) (cur : Array Value), k ≤ a.L.length ∧ i = .int .i64 k ∧ Aside0 (But w2 g8 W ∧ AllAt W w2.heap.size g8 cur (colls a.sc a.L a.ws on R k))) (fun i _ => a.L.length - (intOf i).toNat)
        case atStart => exact ⟨0, _, Nat.zero_le _, rfl, ⟨But.of _ (Below.refl _ _), HZ0.out⟩⟩
        case round =>
          clear HZ0
          obtain ⟨k, cur, hk, rfl, HL⟩ := hrel
          have HBW := Aside0.mk (HL.out.1.below HBW2.out HGB.out.2.1 HGB.out.2.2)
          have HBX := Aside0.mk (HL.out.1.below HB2.out HGB.out.1 HGG.out.2)
          have hbr := (HBX.out.block g6 HWW.out.2.1).trans H1.out.2.1
          have r0 := blk2_c0 hbr
          have r1 := blk2_c1 hbr
          have HBR := Aside0.mk hbr
          clear hbr
          by_cases hlt : k < a.L.length
          · have hkl : (k : Int) < (a.L.length : Int) := by omega
            obtain ⟨ad, Bx, cx, rfl, hx, _, hcx⟩ := at_row HR.out.1.rel.rows HBW.out k hlt
            obtain ⟨key, hkey⟩ : ∃ key, pick (a.L.getD k []) ps = key := ⟨_, rfl⟩
            obtain ⟨p, hp⟩ : ∃ p, pos R key = p := ⟨_, rfl⟩
            obtain ⟨b, hb⟩ : ∃ b, decide (key ∈ R) = b := ⟨_, rfl⟩
            have hPC := (Kd.R_reads' (HL.out.1.R HPR.out)).2.2
            have HRD := Aside0.mk (H1.out.2.2.rd'.step HBX.out)
            have HNO := Aside0.mk (fun (h : ¬ (b = true ∧ k < a.ws.length)) => colls_no (sc := a.sc) (on := on) (ws := a.ws) (R := R) hlt (by rw [HPS.out, hkey]; exact fun h' => h ⟨by rw [← hb]; exact decide_eq_true h'.1, h'.2⟩))
            have HYS := Aside0.mk (show b = true → k < a.ws.length → p < R.length ∧ colls a.sc a.L a.ws on R (k + 1) = (colls a.sc a.L a.ws on R k).set p ((colls a.sc a.L a.ws on R k).getD p [] ++ [rd a.ws k]) from fun h h' => by
              have hin : key ∈ R := of_decide_eq_true (hb.trans h)
              have h2 := colls_yes (sc := a.sc) (on := on) (ws := a.ws) (R := R) hlt (by rw [HPS.out, hkey]; exact hin) h'
              rw [HPS.out, hkey, hp] at h2
              exact ⟨by rw [← hp]; exact pos_lt hin, h2⟩)
            have HFD := Aside0.mk (fun (W : World) (Ak : Option Addr) (ck : Nat) (h0 : Kd.C KL W A3 R.length R) (h1 : Kd.C KI W Ak key.length key) => (show Calls Tryz.prog 75 #[.slice A3 R.length c3, .slice Ak key.length ck] W fun e w' => e = .returned (.tuple #[.int .i64 (p : Int), .bool b]) ∧ Drawn0 W w' from by rw [← hb, ← hp]; exact tuple_Find_any A3 c3 R Ak ck key W h0 h1 (by omega) HR.out.2.2))
            have e1 : (on.length : Nat) = ps.length := HPL.out.symm
            have HPK := Aside0.mk (fun (W : World) (h0 : Kd.C KI W Bx (a.L.getD k []).length (a.L.getD k [])) (h1 : Kd.C KI W (some ⟨g7, 0, none⟩) ps.length ps) => (show Calls Tryz.prog 76 #[.slice Bx (a.L.getD k []).length cx, .slice (some ⟨g7, 0, none⟩) on.length on.length] W fun e w' => ∃ v, e = .returned v ∧ Kd.R KI 3 w' W.heap.size AnyB v key ∧ Below W.heap.size W w' from by rw [← hkey, ← e1.symm]; exact tuple_Pick_any Bx cx _ _ _ ps W h0 h1 (by omega)))
            have HPC := Aside0.mk (And.intro hPC hcx)
            have HSD := Aside0.mk (show wr.drew.cell? ⟨g6, 1, none⟩ = some (.slice A3 R.length c3) ∧ Below wr.heap.size wr wr.drew from ⟨r1, below_drew (Below.refl _ _)⟩)
            generalize a.L.getD k [] = x at *
            clear hcx hPC e1 hkey hp hb
            go_wp2_with fail
            clear r0 r1 hx
            go_region_held3 (fun W => W.cell? ⟨g6, 1, none⟩ = some (.slice A3 R.length c3) ∧ Below wr.heap.size wr W)
              (first | with_reducible exact HS2.out | with_reducible exact HS1.out | with_reducible exact HSD.out)
              (first
                | (have hgd := HS1; clear hgd; go_at_call 75; refine (HFD.out _ _ _ (Kd.C_below HRD.out.rows HS1.out.2) HC5.out).mono ?_; rintro e w3 ⟨rfl, hd3⟩; have HS2 := Aside0.mk (And.intro ((hd3.below.cell (World.block_lt_of_cell? _ _ HS1.out.1)).trans HS1.out.1) (below_then HS1.out.2 HS1.out.2.size hd3.below)); clear hd3)
                | (go_at_call 76; refine (HPK.out _ (Kd.C_below HPC.out.2 (below_drew (Below.refl _ _))) (Kd.C_below HPC.out.1 (below_drew (Below.refl _ _)))).mono ?_; rintro e w2' ⟨v2, rfl, hv2, hb2⟩; obtain ⟨A5, c5, rfl, _, hC5⟩ := Kd.R_reads hv2; have HC5 := Aside0.mk hC5; have HS1 := Aside0.mk (And.intro ((hb2.cell (World.block_lt_of_cell? _ _ HSD.out.1)).trans HSD.out.1) (below_then HSD.out.2 HSD.out.2.size hb2)); clear hv2 hb2 hC5))
            have HB3 := Aside0.mk HS2.out.2
            have HT3 := Aside0.mk (HL.out.1.step HB3.out)
            have HA3 := Aside0.mk (HL.out.2.step HB3.out)
            have hbx := (HB3.out.block w.heap.size (Nat.lt_of_lt_of_le (by have := HWW.out.1; omega) HBX.out.size)).trans ((HBX.out.block w.heap.size (by have := HWW.out.1; omega)).trans HX1.out.1)
            obtain ⟨q0, q1, q2⟩ := blk3_c hbx
            have HBX3 := Aside0.mk hbx
            have HBW3 := Aside0.mk (below_then HBW.out HBW.out.size HB3.out)
            have hwm : a.ws.length ≤ 9223372036854775807 := HR.out.1.w.2.1
            clear HFD HPK HSD HS1 HS2 HC5 hbx
            rename World => wr4
            cases b with
            | false =>
              have HNN := Aside0.mk (HNO.out (by simp))
              clear HNO HYS
              go_wp2
              go_roundw
              case rel => exact ⟨k + 1, cur, by omega, by go_num, ⟨HT3.out, by rw [HNN.out]; exact HA3.out⟩⟩
              case measure => simp [intOf]; omega
            | true =>
              by_cases hw : k < a.ws.length
              · have HYY := Aside0.mk (HYS.out rfl hw)
                have hpl := HYY.out.1
                have hpi : (p : Int) < (R.length : Int) := by omega
                have hp0 : (0 : Int) ≤ (p : Int) := by omega
                have hwi : (k : Int) < (a.ws.length : Int) := by omega
                obtain ⟨adw, rfl, hxw⟩ := Kd.at_int HR.out.1.w (k : Int) (by omega) hwi
                simp only [Int.toNat_natCast] at hxw
                have HH0 := World.block_lt_of_cell? w _ hxw
                have hxw := (HBW3.out.cell HH0).trans hxw
                have HH := Aside0.mk (show g8 < w2.heap.size ∧ w.heap.size < w2.heap.size ∧ (adw.add k).block < w2.heap.size from ⟨HG8.out, Nat.lt_of_lt_of_le (by have := HWW.out.1; omega) HB2.out.size, Nat.lt_of_lt_of_le HH0 HBW2.out.size⟩)
                have hrow := HA3.out.row p (by rw [colls_len]; exact hpl)
                have hcell := HA3.out.cell p (by rw [colls_len]; exact hpl)
                have hxl := colls_row a.sc a.L a.ws on R k p hpl
                obtain ⟨xs, hxs⟩ : ∃ xs, (colls a.sc a.L a.ws on R k).getD p [] = xs := ⟨_, rfl⟩
                rw [hxs] at hrow hxl
                obtain ⟨Ar, cr, hcr⟩ := Kd.R_slice hrow
                rw [hcr] at hrow hcell
                have HXL := Aside0.mk hxl
                have HCR := Aside0.mk (And.intro hcr hxs)
                have e0 := ((below_drew (Below.refl wr4.heap.size wr4)).cell (World.block_lt_of_cell? _ _ hcell)).trans hcell
                have e1 := ((below_drew (Below.refl wr4.heap.size wr4)).cell (World.block_lt_of_cell? _ _ q2)).trans q2
                have e2 := ((below_drew (Below.refl wr4.heap.size wr4)).cell (World.block_lt_of_cell? _ _ hxw)).trans hxw
                have HD := Aside0.mk (below_drew (Below.refl wr4.heap.size wr4))
                have HRx := Aside0.mk (Kd.R_below hrow HD.out)
                have HBt := Aside0.mk (HT3.out.step HD.out)
                have HAt := Aside0.mk (HA3.out.step HD.out)
                clear hrow hcell hxl hxs hcr HH0 HNO HYS hw HT3 HA3
                go_wp2_with fail
                refine start_ (n := 15) (S := fun w' => w'.cell? ⟨g8, p, none⟩ = some (.slice Ar xs.length cr) ∧ w'.cell? ⟨w.heap.size, 2, none⟩ = some (.slice (some adw) a.ws.length cw) ∧ w'.cell? (adw.add k) = some (.int .i64 (rd a.ws k))) (ds := [14]) #[false, false, false, false, false, false, false, false, false, false, false, false, false, false, false] (by kernel_rfl) rfl rfl ⟨e0, e1, e2⟩ (fun hHeld => ?_)
                generalize hw17 : wr4.drew = w17 at *
                clear hw17
                have HAF := Aside0.mk (fun (w8 : World) (hg : w17.grownBy w8 (Value.slice Ar xs.length cr).ownBlock) => HAt.out.after (j := p) (by rw [colls_len]; exact HYY.out.1) HH.out.1 (by rw [HCR.out.1]; exact hg))
                have HPU := Aside0.mk (fun (w8 : World) (v1 : Value) (ys : List Int) (hg : w17.grownBy w8 (Value.slice Ar xs.length cr).ownBlock) hat hR => HAt.out.push (v1 := v1) (ys := ys) (w1 := w8) (j := p) (by rw [colls_len]; exact HYY.out.1) HH.out.1 (by rw [HCR.out.1]; exact hg) (by rw [HCR.out.1]; exact hat) hR)
                have hb5 := below_alloc (Below.refl w17.heap.size w17) (.cells #[.int .i64 (rd a.ws k)] 2)
                have h0 := World.block_lt_of_cell? w17 _ e0
                have h1 := World.block_lt_of_cell? w17 _ e1
                have h2 := World.block_lt_of_cell? w17 _ e2
                refine pure_ (i := 0) (N := some 70) (v := ?_) (a' := ?_) #[true, false, false, false, false, false, false, false, false, false, false, false, false, false, false] rfl rfl (by kernel_rfl) (fun _ _ _ h => h) (Or.inl ⟨by rfl, ?_⟩) ?_ ?_
                rotate_left
                · intro w'
                  go_simp
                  with_reducible rfl
                rotate_left
                · simp only [Act.put, List.setIfInBounds_toArray, List.set_cons_zero, List.set_cons_succ, i64_w, i32_w]
                  rfl
                refine pure_ (i := 1) (N := some 71) (v := ?_) (a' := ?_) #[true, true, false, false, false, false, false, false, false, false, false, false, false, false, false] rfl rfl (by kernel_rfl) (fun _ _ _ h => h) (Or.inl ⟨by rfl, ?_⟩) ?_ ?_
                rotate_left
                · intro w'
                  go_simp
                  with_reducible rfl
                rotate_left
                · simp only [Act.put, List.setIfInBounds_toArray, List.set_cons_zero, List.set_cons_succ, i64_w, i32_w]
                  rfl
                refine pure_ (i := 2) (N := some 72) (v := ?_) (a' := ?_) #[true, true, true, false, false, false, false, false, false, false, false, false, false, false, false] rfl rfl (by kernel_rfl) (fun _ _ _ h => h) (Or.inl ⟨by rfl, ?_⟩) ?_ ?_
                rotate_left
                · intro w'
                  go_simp
                  with_reducible rfl
                rotate_left
                · simp only [Act.put, List.setIfInBounds_toArray, List.set_cons_zero, List.set_cons_succ, i64_w, i32_w]
                  rfl
                refine pure_ (i := 3) (N := some 73) (v := ?_) (a' := ?_) #[true, true, true, true, false, false, false, false, false, false, false, false, false, false, false] rfl rfl (by kernel_rfl) (fun _ _ _ h => h) (Or.inl ⟨by rfl, ?_⟩) ?_ ?_
                rotate_left
                · intro w'
                  go_simp
                  with_reducible rfl
                rotate_left
                · simp only [Act.put, List.setIfInBounds_toArray, List.set_cons_zero, List.set_cons_succ, i64_w, i32_w]
                  rfl
                refine pure_ (i := 6) (N := some 76) (v := ?_) (a' := ?_) #[true, true, true, true, false, false, true, false, false, false, false, false, false, false, false] rfl rfl (by kernel_rfl) (fun _ _ _ h => h) (Or.inl ⟨by rfl, ?_⟩) ?_ ?_
                rotate_left
                · intro w'
                  go_simp
                  with_reducible rfl
                rotate_left
                · simp only [Act.put, List.setIfInBounds_toArray, List.set_cons_zero, List.set_cons_succ, i64_w, i32_w]
                  rfl
                refine pure_ (i := 8) (N := some 78) (v := ?_) (a' := ?_) #[true, true, true, true, false, false, true, false, true, false, false, false, false, false, false] rfl rfl (by kernel_rfl) (fun _ _ _ h => h) (Or.inl ⟨by rfl, ?_⟩) ?_ ?_
                rotate_left
                · intro w'
                  go_simp
                  with_reducible rfl
                rotate_left
                · simp only [Act.put, List.setIfInBounds_toArray, List.set_cons_zero, List.set_cons_succ, i64_w, i32_w]
                  rfl
                refine pure_ (i := 4) (N := some 74) (v := ?_) (a' := ?_) #[true, true, true, true, true, false, true, false, true, false, false, false, false, false, false] rfl rfl (by kernel_rfl) (fun _ _ _ h => h) (Or.inl ⟨by rfl, ?_⟩) ?_ ?_
                rotate_left
                · intro w'
                  go_simp
                  with_reducible rfl
                rotate_left
                · simp only [Act.put, List.setIfInBounds_toArray, List.set_cons_zero, List.set_cons_succ, i64_w, i32_w]
                  rfl
                refine take_ (i := 5) (N := some 75) (v := ?_) (a' := ?_) #[true, true, true, true, true, true, true, false, true, false, false, false, false, false, false] rfl rfl (by kernel_rfl) (fun _ _ _ h => h) (Or.inl ⟨by rfl, ?_⟩) hHeld ?_ ?_
                rotate_left
                · rintro w' ⟨s0, s1, s2⟩
                  go_simp
                  with_reducible rfl
                rotate_left
                · simp only [Act.put, List.setIfInBounds_toArray, List.set_cons_zero, List.set_cons_succ, i64_w, i32_w]
                  rfl
                refine take_ (i := 7) (N := some 77) (v := ?_) (a' := ?_) #[true, true, true, true, true, true, true, true, true, false, false, false, false, false, false] rfl rfl (by kernel_rfl) (fun _ _ _ h => h) (Or.inl ⟨by rfl, ?_⟩) hHeld ?_ ?_
                rotate_left
                · rintro w' ⟨s0, s1, s2⟩
                  go_simp
                  with_reducible rfl
                rotate_left
                · simp only [Act.put, List.setIfInBounds_toArray, List.set_cons_zero, List.set_cons_succ, i64_w, i32_w]
                  rfl
                refine pure_ (i := 9) (N := some 79) (v := ?_) (a' := ?_) #[true, true, true, true, true, true, true, true, true, true, false, false, false, false, false] rfl rfl (by kernel_rfl) (fun _ _ _ h => h) (Or.inl ⟨by rfl, ?_⟩) ?_ ?_
                rotate_left
                · intro w'
                  go_simp
                  with_reducible rfl
                rotate_left
                · simp only [Act.put, List.setIfInBounds_toArray, List.set_cons_zero, List.set_cons_succ, i64_w, i32_w]
                  rfl
                refine take_ (i := 10) (N := some 80) (v := ?_) (a' := ?_) #[true, true, true, true, true, true, true, true, true, true, true, false, false, false, false] rfl rfl (by kernel_rfl) (fun _ _ _ h => h) (Or.inl ⟨by rfl, ?_⟩) hHeld ?_ ?_
                rotate_left
                · rintro w' ⟨s0, s1, s2⟩
                  go_simp
                  with_reducible rfl
                rotate_left
                · simp only [Act.put, List.setIfInBounds_toArray, List.set_cons_zero, List.set_cons_succ, i64_w, i32_w]
                  rfl
                refine one_ (i := 11) (N := some 81) #[true, true, true, true, true, true, true, true, true, true, true, true, false, false, false] rfl rfl (by kernel_rfl) (by decide) (fun K hK => ?_)
                refine value_ (w1 := w17.alloc (.cells #[.int .i64 (rd a.ws k)] 2)) (v := .slice (some ⟨w17.heap.size, 0, none⟩) 1 1) (by rfl) rfl ?_ ?_
                · go_simp
                refine hK.out _ _ ⟨(hb5.cell h0).trans e0, (hb5.cell h1).trans e1, (hb5.cell h2).trans e2⟩ (fun hHeld => ?_)
                clear hK K
                refine norm_ (a' := ?_) ?_ ?_
                rotate_left
                · show Act.put _ (some 81) _ = _
                  simp only [Act.put, List.setIfInBounds_toArray, List.set_cons_zero, List.set_cons_succ, i64_w, i32_w]
                  rfl
                refine one_ (i := 12) (N := some 82) #[true, true, true, true, true, true, true, true, true, true, true, true, true, false, false] rfl rfl (by kernel_rfl) (by decide) (fun K hK => ?_)
                refine app_w_step (w := w17) w2.heap.size (fun k => w2.heap.size ≤ k) (by rfl) (.tmp 75) (.tmp 81) rfl (.slice Ar xs.length cr) xs (rd a.ws k) rfl rfl (fun k hk => Nat.le_trans HBt.out.size hk) HRx.out (Below.refl _ _) HBt.out.size (by have := HXL.out; omega) ?_
                intro v1 w8 HV8 HB8 HG8
                obtain ⟨A9, c9, rfl⟩ := Kd.R_slice HV8.out
                refine hK.out _ _ ⟨(HB8.out.cell HH.out.1).trans e0, (HB8.out.cell HH.out.2.1).trans e1, (HB8.out.cell HH.out.2.2).trans e2⟩ (fun hHeld => ?_)
                clear hK K
                refine norm_ (a' := ?_) ?_ ?_
                rotate_left
                · show Act.put _ (some 82) _ = _
                  simp only [Act.put, List.setIfInBounds_toArray, List.set_cons_zero, List.set_cons_succ, i64_w, i32_w]
                  rfl
                refine pure_ (i := 13) (N := some 83) (v := ?_) (a' := ?_) #[true, true, true, true, true, true, true, true, true, true, true, true, true, true, false] rfl rfl (by kernel_rfl) (fun _ _ _ h => h) (Or.inl ⟨by rfl, ?_⟩) ?_ ?_
                rotate_left
                · intro w'
                  go_simp
                  with_reducible rfl
                rotate_left
                · simp only [Act.put, List.setIfInBounds_toArray, List.set_cons_zero, List.set_cons_succ, i64_w, i32_w]
                  rfl
                refine last_ (i := 14) (N := none) #[true, true, true, true, true, true, true, true, true, true, true, true, true, true, true] rfl rfl (by kernel_rfl) (by decide) (fun K hK => ?_)
                have hbk9 := HAF.out _ HG8.out.1
                have z0 := (HB8.out.cell HH.out.1).trans e0
                have z1 := blk_fr (i := p) hbk9
                refine skip_ (w1 := ?_) (by rfl) rfl ?_ ?_
                rotate_left
                · go_simp
                  rfl
                refine hK.out _ _ ?_
                clear hK K
                refine done_ (by kernel_rfl) ?_
                go_wp2
                go_roundw
                case rel =>
                  have h := HPU.out _ _ _ HG8.out.1 HG8.out.2 HV8.out
                  have e := HYY.out.2
                  rw [HCR.out.2] at e
                  rw [List.length_append] at h
                  exact ⟨k + 1, _, by omega, by go_num, ⟨(HBt.out.grown HG8.out.1 (fun k e => HRx.out.1 k e)).set p _, by rw [e]; exact h⟩⟩
                case measure => simp [intOf]; omega
              · have HNN := Aside0.mk (HNO.out (fun h => hw h.2))
                have hpi : decide ((k : Int) < (a.ws.length : Int)) = false := decide_eq_false (by omega)
                have hpn : decide (k < a.ws.length) = false := decide_eq_false (by omega)
                clear HNO HYS hw
                go_wp2
                go_roundw
                case rel => exact ⟨k + 1, cur, by omega, by go_num, ⟨HT3.out, by rw [HNN.out]; exact HA3.out⟩⟩
                case measure => simp [intOf]; omega
          · have hke : k = a.L.length := by omega
            subst hke
            have hz := (HBX.out.block (w.heap.size + 1) (by have := HWW.out.1; omega)).trans HX1.out.2
            have z0 := blk2_c0 hz
            have z1 := blk_fr (i := 0) hz
            have z2 := blk2_c1 (blk2_s0 hz (.slice A2 on.length c2))
            have z3 := blk_fr (i := 1) (blk2_s0 hz (.slice A2 on.length c2))
            have hz2 := blk2_two hz (.slice A2 on.length c2) (.slice A3 R.length c3)
            have y0 := blk2_c0 hz2
            have y1 := blk2_c1 hz2
            have HF := Aside0.mk (show AllAt ((wr.setCell ⟨w.heap.size + 1, 0, none⟩ (.slice A2 on.length c2)).setCell ⟨w.heap.size + 1, 1, none⟩ (.slice A3 R.length c3)) w2.heap.size g8 cur (partedTo a on R) from by rw [← colls_all]; exact (HL.out.2.far (show w.heap.size + 1 < g8 from Nat.lt_of_lt_of_le HWW.out.1 HGG.out.2) (Nat.lt_of_lt_of_le HWW.out.1 HGB.out.1) _).far (show w.heap.size + 1 < g8 from Nat.lt_of_lt_of_le HWW.out.1 HGG.out.2) (Nat.lt_of_lt_of_le HWW.out.1 HGB.out.1) _)
            clear hz hz2 HL
            go_wp2
            refine bodyPost_ret (v := .tuple #[.agg #[.slice A2 on.length c2, .slice A3 R.length c3], .slice (some ⟨g8, 0, none⟩) R.length R.length]) (by simp [results, Tryz.results50, go_sem, y0, y1]) rfl ?_
            have hlt0 : w.heap.size + 1 < W0.heap.size := by have := H0.out.2.2.2; omega
            have hM := (((H1.out.2.2.below HBX.out).far (p := ⟨w.heap.size + 1, 0, none⟩) hlt0 (.slice A2 on.length c2)).far (p := ⟨w.heap.size + 1, 1, none⟩) hlt0 (.slice A3 R.length c3)).lower (show w.heap.size ≤ W0.heap.size by omega)
            have hAR := HF.out.reads (by simp [partedTo]; omega)
            rw [show (partedTo a on R).length = R.length by simp [partedTo]] at hAR
            exact ⟨A2, c2, A3, c3, _, _, rfl, hM, hAR, Nat.le_refl _, (HBW.out.setCell (p := ⟨w.heap.size + 1, 0, none⟩) (Nat.le_succ _) _).setCell (p := ⟨w.heap.size + 1, 1, none⟩) (Nat.le_succ _) _⟩
end
end Go.Proofs.YtlmkgghpaaadhaaGreatDoor.G

/- weigh.adder: one weight more. -/
set_option linter.unusedVariables false
set_option linter.unusedSimpArgs false
namespace Go.Proofs.YtlmkgghpaaadhaaGreatDoor.G
open Go.RowKit Go.Proofs.YtlmkgghpaaadhaaGreatDoorW.PrintWords Go.Proofs.YtlmkgghpaaadhaaGreatDoorW.PrintLast Go.Proofs.YtlmkgghpaaadhaaGreatDoorW.PrintMore
theorem blk4_c {W : World} {g t : Nat} {a b c d : Value} (h : W.heap[g]? = some (.cells #[a, b, c, d] t (0, 0))) : W.cell? ⟨g, 0, none⟩ = some a ∧ W.cell? ⟨g, 1, none⟩ = some b ∧ W.cell? ⟨g, 2, none⟩ = some c ∧ W.cell? ⟨g, 3, none⟩ = some d :=
  ⟨by rw [cell_of_row W g 0 _ _ _ h]; rfl, by rw [cell_of_row W g 1 _ _ _ h]; rfl, by rw [cell_of_row W g 2 _ _ _ h]; rfl, by rw [cell_of_row W g 3 _ _ _ h]; rfl⟩
theorem but_drew {w : World} {g : Nat} {W : World} (h : But w g W) : But w g W.drew := h.step (below_drew (Below.refl _ _))
theorem u64_in {n : Int} (h0 : 0 ≤ n) (h1 : n < 18446744073709551616) : IntKind.u64.wrap n = n := by simp only [IntKind.wrap, IntKind.bits, IntKind.signed]; simp; omega
set_option maxHeartbeats 4000000 in
set_option maxRecDepth 100000 in
theorem add_any (g : Nat) (s n x : Int) (f0 f1 : Value) (W : World) (hb : W.heap[g]? = some (.cells #[.int .i64 s, .int .u64 n, f0, f1] 99 (0, 0))) (hn0 : 0 ≤ n) (hn : n ≤ 4611686018427387904) (hx : x.natAbs ≤ 4611686018427387904) :
    Calls Tryz.prog 51 #[.pointer (some ⟨g, 0, none⟩), .int .i64 x] W fun e w' => e = .returned (.bool (decide (n + (x.natAbs : Int) ≤ 4611686018427387904))) ∧ w'.heap[g]? = some (.cells #[.int .i64 (wrap64 (s + x)), .int .u64 (n + (x.natAbs : Int)), f0, f1] 99 (0, 0)) ∧ But W g w' := by
  have HX := Aside0.mk (show (-9223372036854775808 ≤ x ∧ x < 9223372036854775808) ∧ -9223372036854775808 ≤ x ∧ x < 9223372036854775808 from by omega)
  have HU := Aside0.mk (u64_in (n := n + (x.natAbs : Int)) (by omega) (by omega))
  have hwr : IntKind.u64.wrap (n + (x.natAbs : Int)) = n + (x.natAbs : Int) := HU.out
  have ha := fun W => as_int W (.int .i64 x)
  have p0 := (blk4_c hb).1
  have p1 := blk_fr (i := 0) hb
  have hb1 := blk_set1 hb 0 (.int .i64 (wrap64 (s + x)))
  have HB1 := Aside0.mk (And.intro hb1 ((But.of g (Below.refl _ _) : But W g W).set 0 (.int .i64 (wrap64 (s + x)))))
  clear hn0 hn hx hb hb1
  go_enter Tryz.func51, Tryz.ntmps51
  go_wp2_with fail
  clear ha p0 p1
  obtain ⟨w0, hw0⟩ : ∃ w0, W.setCell ⟨g, 0, none⟩ (.int .i64 (wrap64 (s + x))) = w0 := ⟨_, rfl⟩
  rw [hw0] at HB1
  rw [hw0]
  clear hw0
  have hk17 : w0.drew.heap[g]? = some (.cells #[.int .i64 (wrap64 (s + x)), .int .u64 n, f0, f1] 99 (0, 0)) := HB1.out.1
  have hbt := but_drew HB1.out.2
  have e0 := (blk4_c hk17).2.1
  refine start_ (n := 10) (S := fun w' => w'.cell? ⟨g, 1, none⟩ = some (.int .u64 n)) (ds := [9]) #[false, false, false, false, false, false, false, false, false, false] (by kernel_rfl) rfl rfl e0 (fun hHeld => ?_)
  generalize hD : w0.drew = w17 at *
  clear hD
  refine pure_ (i := 0) (N := some 20) (v := ?_) (a' := ?_) #[true, false, false, false, false, false, false, false, false, false] rfl rfl (by kernel_rfl) (fun _ _ _ h => h) (Or.inl ⟨by rfl, ?_⟩) ?_ ?_
  rotate_left
  · intro w'
    go_simp
    with_reducible rfl
  rotate_left
  · simp only [Act.put, List.setIfInBounds_toArray, List.set_cons_zero, List.set_cons_succ, i64_w, i32_w]
    rfl
  refine pure_ (i := 4) (N := some 24) (v := ?_) (a' := ?_) #[true, false, false, false, true, false, false, false, false, false] rfl rfl (by kernel_rfl) (fun _ _ _ h => h) (Or.inl ⟨by rfl, ?_⟩) ?_ ?_
  rotate_left
  · intro w'
    go_simp
    with_reducible rfl
  rotate_left
  · simp only [Act.put, List.setIfInBounds_toArray, List.set_cons_zero, List.set_cons_succ, i64_w, i32_w]
    rfl
  refine pure_ (i := 1) (N := some 21) (v := ?_) (a' := ?_) #[true, true, false, false, true, false, false, false, false, false] rfl rfl (by kernel_rfl) (fun _ _ _ h => h) (Or.inl ⟨by rfl, ?_⟩) ?_ ?_
  rotate_left
  · intro w'
    go_simp
    with_reducible rfl
  rotate_left
  · simp only [Act.put, List.setIfInBounds_toArray, List.set_cons_zero, List.set_cons_succ, i64_w, i32_w]
    rfl
  refine pure_ (i := 2) (N := some 22) (v := ?_) (a' := ?_) #[true, true, true, false, true, false, false, false, false, false] rfl rfl (by kernel_rfl) (fun _ _ _ h => h) (Or.inl ⟨by rfl, ?_⟩) ?_ ?_
  rotate_left
  · intro w'
    go_simp
    with_reducible rfl
  rotate_left
  · simp only [Act.put, List.setIfInBounds_toArray, List.set_cons_zero, List.set_cons_succ, i64_w, i32_w]
    rfl
  refine take_ (i := 3) (N := some 23) (v := ?_) (a' := ?_) #[true, true, true, true, true, false, false, false, false, false] rfl rfl (by kernel_rfl) (fun _ _ _ h => h) (Or.inl ⟨by rfl, ?_⟩) hHeld ?_ ?_
  rotate_left
  · rintro w' s0
    go_simp
    with_reducible rfl
  rotate_left
  · simp only [Act.put, List.setIfInBounds_toArray, List.set_cons_zero, List.set_cons_succ, i64_w, i32_w]
    rfl
  refine one_ (i := 5) (N := some 25) #[true, true, true, true, true, true, false, false, false, false] rfl rfl (by kernel_rfl) (by decide) (fun K hK => ?_)
  refine goes_ Tryz.func38 (by kernel_rfl) rfl #[.int .i64 x] (by rfl) rfl rfl (by (try simp only [List.map_toArray, List.map_cons, List.map_nil]); first | done | rfl) ?_
  refine (wsize_any x HX.out.2.1 HX.out.2.2 _).mono ?_
  rintro e w' ⟨rfl, rfl⟩
  refine ⟨_, rfl, ?_⟩
  refine hK.out _ _ e0 (fun hHeld => ?_)
  clear hK K
  refine norm_ (a' := ?_) ?_ ?_
  rotate_left
  · show Act.put _ (some 25) _ = _
    simp only [Act.put, List.setIfInBounds_toArray, List.set_cons_zero, List.set_cons_succ, i64_w, i32_w]
    rfl
  refine pure_ (i := 6) (N := some 26) (v := ?_) (a' := ?_) #[true, true, true, true, true, true, true, false, false, false] rfl rfl (by kernel_rfl) (fun _ _ _ h => h) (Or.inl ⟨by rfl, ?_⟩) ?_ ?_
  rotate_left
  · intro w'
    go_simp
    with_reducible rfl
  rotate_left
  · simp only [Act.put, List.setIfInBounds_toArray, List.set_cons_zero, List.set_cons_succ, i64_w, i32_w]
    rfl
  refine pure_ (i := 7) (N := some 27) (v := ?_) (a' := ?_) #[true, true, true, true, true, true, true, true, false, false] rfl rfl (by kernel_rfl) (fun _ _ _ h => h) (Or.inl ⟨by rfl, ?_⟩) ?_ ?_
  rotate_left
  · intro w'
    go_simp
    with_reducible rfl
  rotate_left
  · simp only [Act.put, List.setIfInBounds_toArray, List.set_cons_zero, List.set_cons_succ, i64_w, i32_w]
    rfl
  refine pure_ (i := 8) (N := some 28) (v := ?_) (a' := ?_) #[true, true, true, true, true, true, true, true, true, false] rfl rfl (by kernel_rfl) (fun _ _ _ h => h) (Or.inl ⟨by rfl, ?_⟩) ?_ ?_
  rotate_left
  · intro w'
    go_simp
    with_reducible rfl
  rotate_left
  · simp only [Act.put, List.setIfInBounds_toArray, List.set_cons_zero, List.set_cons_succ, i64_w, i32_w]
    rfl
  refine last_ (i := 9) (N := none) #[true, true, true, true, true, true, true, true, true, true] rfl rfl (by kernel_rfl) (by decide) (fun K hK => ?_)
  have z0 := (blk4_c hk17).2.1
  have z1 := blk_fr (i := 1) hk17
  refine skip_ (w1 := ?_) (by rfl) rfl ?_ ?_
  rotate_left
  · go_simp
    rfl
  refine hK.out _ _ ?_
  clear hK K
  refine done_ (by kernel_rfl) ?_
  have hk18 := blk_set1 hk17 1 (.int .u64 (n + (x.natAbs : Int)))
  have y0 := (blk4_c hk18).2.1
  have HK := Aside0.mk (And.intro hk18 (hbt.set 1 (.int .u64 (n + (x.natAbs : Int)))))
  clear e0 hk17 hk18 hbt
  go_wp2
  go_ret
  exact ⟨rfl, HK.out.1, HK.out.2⟩
end Go.Proofs.YtlmkgghpaaadhaaGreatDoor.G

/- weigh.Sum and weigh.Min, walked. -/
set_option linter.unusedVariables false
set_option linter.unusedSimpArgs false
namespace Go.Proofs.YtlmkgghpaaadhaaGreatDoor.G
open Go.RowKit Go.Proofs.YtlmkgghpaaadhaaGreatDoorW.PrintWords Go.Proofs.YtlmkgghpaaadhaaGreatDoorW.PrintLast Go.Proofs.YtlmkgghpaaadhaaGreatDoorW.PrintMore
/-- How much a row of weights may come to. -/
def tot (l : List Int) : Int := (l.map fun x => (x.natAbs : Int)).sum
theorem tot_nonneg (l : List Int) : 0 ≤ tot l := by
  induction l with
  | nil => simp [tot]
  | cons x l ih => simp only [tot, List.map_cons, List.sum_cons] at ih ⊢; omega
theorem tot_append (l m : List Int) : tot (l ++ m) = tot l + tot m := by simp [tot, List.map_append, List.sum_append]
theorem sum_le_tot (l : List Int) : (l.sum.natAbs : Int) ≤ tot l := by
  induction l with
  | nil => simp [tot]
  | cons x l ih => simp only [tot, List.map_cons, List.sum_cons] at ih ⊢; omega
theorem tot_take (l : List Int) (k : Nat) : tot (l.take k) ≤ tot l := by
  have h := tot_append (l.take k) (l.drop k)
  rw [List.take_append_drop] at h
  have := tot_nonneg (l.drop k)
  omega
theorem tot_succ (l : List Int) (k : Nat) (hk : k < l.length) : tot (l.take (k + 1)) = tot (l.take k) + ((rd l k).natAbs : Int) := by
  rw [take_succ_rd l k hk, tot_append]; simp [tot]
theorem sum_succ (l : List Int) (k : Nat) (hk : k < l.length) : (l.take (k + 1)).sum = (l.take k).sum + rd l k := by
  rw [take_succ_rd l k hk, List.sum_append]; simp
def sumTo (a : WRel) (on : List Int) (R : List (List Int)) : WRel × Int :=
  if ∀ l ∈ partedTo a on R, tot l ≤ 4611686018427387904 then (⟨on, R, (partedTo a on R).map List.sum⟩, 0) else (⟨[], [], []⟩, 11)
/-- The least of a row, nought if there is none. -/
def least : List Int → Int
  | [] => 0
  | x :: l => l.foldl min x
def minTo (a : WRel) (on : List Int) (R : List (List Int)) : WRel := ⟨on, R, (partedTo a on R).map least⟩
theorem at_rowW {w w1 : World} {A : Option Addr} {n : Nat} {L : List (List Int)} (h : Kd.C KLw w A n L) (hb : Below w.heap.size w w1) (k : Nat) (hk : k < n) :
    ∃ ad B c, A = some ad ∧ w1.cell? (ad.add k) = some (.slice B (L.getD k []).length c) ∧ (L.getD k []).length ≤ c ∧ Kd.C KI w1 B (L.getD k []).length (L.getD k []) := by
  obtain ⟨ad, cs, e, _, hK, hc⟩ := Kd.C_get (Kd.C_below h hb) ([] : List Int) (k : Int) (by omega) (by omega)
  obtain ⟨B, c, rfl, hl, hr⟩ := hK
  have h0 := hc 0 _ rfl
  rw [show KLw.sz = 1 from rfl, Nat.mul_one, Nat.add_zero, Int.toNat_natCast] at h0
  exact ⟨ad, B, c, e, h0, hl, hr⟩
theorem parted_in {a : WRel} {on : List Int} {R : List (List Int)} (h : InW a.ws) : ∀ l ∈ partedTo a on R, InW l := fun l hl => by
  obtain ⟨j, _, rfl⟩ := List.mem_map.1 hl
  intro x hx
  obtain ⟨p, hp, rfl⟩ := List.mem_map.1 hx
  exact h _ (List.of_mem_zip (List.mem_filter.1 hp).1).2

section
variable {A : Option Addr} {c : Nat} {A' : Option Addr} {c' : Nat} {Aw : Option Addr} {cw : Nat} {a : WRel} {Av : Option Addr} {cv : Nat} {vars : List Int} {w : World}
set_option maxHeartbeats 8000000 in
set_option maxRecDepth 100000 in
theorem sum_any (h : WRd w A c a.sc A' c' a.L Aw cw a.ws) (hw : InW a.ws) (hv : Kd.C KI w Av vars.length vars) (hm : a.sc.length ≤ 1000000) (hm1 : a.L.length ≤ 1000000) (hm2 : vars.length ≤ 1000000) {on : List Int} {R : List (List Int)} (hP : projRel a.sc a.L vars = (on, R)) (ho : Ord R) (hol : on.length ≤ 1000000) (hRl : R.length ≤ 1000000) {r : WRel} {n : Int} (hr : sumTo a on R = (r, n)) :
    Calls Tryz.prog 25 #[.agg #[.slice A a.sc.length c, .slice A' a.L.length c', .slice Aw a.ws.length cw], .slice Av vars.length cv] w fun e w' => WOk w w' e r n := by
  have HRR := Aside0.mk hr
  have HW := Aside0.mk (show ∀ l ∈ partedTo a on R, InW l from parted_in hw)
  have HPJ := Aside0.mk (fun (W : World) (h0 : WRd W A c a.sc A' c' a.L Aw cw a.ws) (h1 : Kd.C KI W Av vars.length vars) => parted_any (cv := cv) h0 h1 hm hm1 hm2 hP ho hol hRl)
  have HR := Aside0.mk (And.intro h hv)
  have hPL : (partedTo a on R).length = R.length := by simp [partedTo]
  obtain ⟨P, hP0⟩ : ∃ P, partedTo a on R = P := ⟨_, rfl⟩
  rw [hP0] at hPL HW
  have HP0 := Aside0.mk hP0
  have HPL := Aside0.mk hPL
  obtain ⟨W0, hW0⟩ : ∃ W0, (w.alloc (.cells #[.slice A a.sc.length c, .slice A' a.L.length c', .slice Aw a.ws.length cw] 37)).alloc (.cells #[.slice none 0 0, .slice none 0 0, .slice none 0 0] 37) = W0 := ⟨_, rfl⟩
  have hb0 : Below w.heap.size w W0 := by rw [← hW0]; exact below_alloc (below_alloc (Below.refl _ _) _) _
  have hk0 : W0.heap[w.heap.size]? = some (.cells #[.slice A a.sc.length c, .slice A' a.L.length c', .slice Aw a.ws.length cw] 37 (0, 0)) := by rw [← hW0]; exact blk_two1 _ _ _
  have hz0 : W0.heap[w.heap.size + 1]? = some (.cells #[.slice none 0 0, .slice none 0 0, .slice none 0 0] 37 (0, 0)) := by rw [← hW0]; exact blk_two2 _ _ _
  have hs0 : W0.heap.size = w.heap.size + 2 := by rw [← hW0]; simp
  have H0 := Aside0.mk (And.intro hb0 (And.intro hk0 (And.intro hz0 hs0)))
  obtain ⟨q0, q1, q2⟩ := blk3_c hk0
  clear h hv hP ho hb0 hk0 hz0 hs0 hr hP0 hPL hw
  go_enter Tryz.func25, Tryz.ntmps25
  go_wp2_with (go_at_call 50; refine (HPJ.out _ (HR.out.1.step H0.out.1) (Kd.C_below HR.out.2 H0.out.1)).mono ?_; rintro e w1 ⟨A2, c2, A3, c3, A4, c4, rfl, hM, hC4, hc4, hb1⟩; have HM := Aside0.mk (And.intro hM (And.intro hb1 hC4)); clear hM hb1 hC4 hc4)
  clear hW0 q0 q1 q2
  rename World => w1
  obtain ⟨w4, hw4⟩ : ∃ w4, w1.alloc (.cells #[.slice A2 on.length c2, .slice A3 R.length c3] 31) = w4 := ⟨_, rfl⟩
  have hg4 : w4.heap.size = w1.heap.size + 1 := by rw [← hw4]; simp
  have hb4 : Below w1.heap.size w1 w4 := by rw [← hw4]; exact below_alloc (Below.refl _ _) _
  have HB4 := Aside0.mk (below_then HM.out.2.1 HM.out.2.1.size hb4)
  have H4 := Aside0.mk (And.intro (HM.out.1.below hb4) (show Kd.C KLw w4 A4 P.length P from by rw [HPL.out, ← HP0.out]; exact Kd.C_below HM.out.2.2 hb4))
  have HS4 := Aside0.mk (show w.heap.size + 1 < w4.heap.size from by have := HM.out.2.1.size; have := H0.out.2.2.2; omega)
  have HWO := Aside0.mk (WOut.new w4 (.slice A2 on.length c2) (.slice A3 R.length c3))
  have hz4 := (HB4.out.block (w.heap.size + 1) (by have := H0.out.2.2.2; omega)).trans H0.out.2.2.1
  have HZ4 := Aside0.mk hz4
  simp only [hw4, ← hg4]
  generalize w4.alloc (.cells #[.slice A2 on.length c2, .slice A3 R.length c3, .slice none 0 0] 37) = W5 at HWO ⊢
  clear hw4 hb4 hz4 HM
  obtain ⟨g, hg⟩ : ∃ g, w4.heap.size = g := ⟨_, rfl⟩
  have HG := Aside0.mk hg
  rw [hg]
  clear hg hg4
  go_loopw [24] (fun i W => ∃ (k : Nat) (s : Value) (M : List Int), k ≤ R.length ∧ i = .int .i64 k ∧ Aside0 (∀ t ∈ P.take k, tot t ≤ 4611686018427387904) ∧ Aside0 ((P.take k).map List.sum = M) ∧ Aside0 (WOut w4 (.slice A2 on.length c2) (.slice A3 R.length c3) s M W)) (fun i _ => R.length - (intOf i).toNat)
  case atStart => exact ⟨0, _, [], Nat.zero_le _, rfl, ⟨by simp⟩, ⟨rfl⟩, HWO⟩
  case round =>
    clear HWO
    obtain ⟨k, s, M, hk, rfl, HOK, HMM, HO⟩ := hrel
    obtain ⟨As, cs, rfl, hcs, hCs⟩ := Kd.R_reads HO.out.row
    clear hcs hCs
    have hk0 := (HO.out.bel.block (w.heap.size + 1) HS4.out).trans HZ4.out
    have HK0 := Aside0.mk hk0
    clear hk0
    by_cases hlt : k < R.length
    · have hkl : (k : Int) < (R.length : Int) := by omega
      have hkp : k < P.length := by rw [HPL.out]; exact hlt
      obtain ⟨ad, Bx, cx, rfl, hx, _, hcx⟩ := at_rowW H4.out.2 HO.out.bel k hkp
      have HLM := Aside0.mk (show M.length ≤ k from by rw [← HMM.out, List.length_map, List.length_take]; omega)
      have HT1 := Aside0.mk (show (∀ t ∈ P.take (k + 1), tot t ≤ 4611686018427387904) ↔ (∀ t ∈ P.take k, tot t ≤ 4611686018427387904) ∧ tot (P.getD k []) ≤ 4611686018427387904 from by
        rw [List.take_succ_eq_append_getElem hkp, getD_get _ _ hkp]
        simp only [List.mem_append, List.mem_singleton]
        exact ⟨fun h => ⟨fun t ht => h t (.inl ht), h _ (.inr rfl)⟩, fun h t ht => ht.elim (h.1 t) (fun e => e ▸ h.2)⟩)
      have HT2 := Aside0.mk (map_take_getD List.sum P k hkp)
      have HT3 := Aside0.mk (show P.getD k [] ∈ P from by rw [getD_get _ _ hkp]; exact List.getElem_mem hkp)
      obtain ⟨x, hxe⟩ : ∃ x, P.getD k [] = x := ⟨_, rfl⟩
      rw [hxe] at hx hcx HT1 HT2 HT3
      have HIN := Aside0.mk (show InW x from HW.out x HT3.out)
      have HCX := Aside0.mk hcx
      clear hxe
      go_wp2
      clear hx
      obtain ⟨W7, hW7⟩ : ∃ W7, wr.alloc (.cells #[.int .i64 0, .int .u64 0, .float .f64 0, .float .f64 0] 99) = W7 := ⟨_, rfl⟩
      have hk7 : W7.heap[wr.heap.size]? = some (.cells #[.int .i64 0, .int .u64 0, .float .f64 0, .float .f64 0] 99 (0, 0)) := by rw [← hW7]; exact heap_alloc_new wr _
      have hb7 : Below wr.heap.size wr W7 := by rw [← hW7]; exact below_alloc (Below.refl _ _) _
      rw [hW7]
      have HL7 := Aside0.mk (And.intro hb7 hk7)
      clear hW7 hk7 hb7 hcx
      obtain ⟨gA, hgA⟩ : ∃ gA, wr.heap.size = gA := ⟨_, rfl⟩
      have HGA := Aside0.mk hgA
      have hxm : x.length ≤ 9223372036854775807 := HCX.out.2.1
      rw [hgA] at HL7
      rw [hgA]
      clear hgA
      go_loopw [30] (fun i W => ∃ (j : Nat), j ≤ x.length ∧ i = .int .i64 j ∧ Aside0 (tot (x.take j) ≤ 4611686018427387904) ∧ Aside0 (Below gA wr W ∧ W.heap[gA]? = some (.cells #[.int .i64 (x.take j).sum, .int .u64 (tot (x.take j)), .float .f64 0, .float .f64 0] 99 (0, 0)))) (fun i _ => x.length - (intOf i).toNat)
      case atStart => exact ⟨0, Nat.zero_le _, rfl, ⟨by simp [tot]⟩, HL7⟩
      case round =>
        clear HL7
        obtain ⟨j, hj, rfl, HTT, HAd⟩ := hrel
        rename World => wj
        have HBj := Aside0.mk (show Below wr.heap.size wr wj from by rw [HGA.out]; exact HAd.out.1)
        by_cases hjl : j < x.length
        · have hjk : (j : Int) < (x.length : Int) := by omega
          obtain ⟨ax, rfl, hx⟩ := at_int' HCX.out HBj.out (j : Int) (show (0 : Int) ≤ (j : Int) by omega) hjk
          simp only [Int.toNat_natCast] at hx
          have HS := Aside0.mk (sum_succ x j hjl)
          have HTS := Aside0.mk (tot_succ x j hjl)
          have HXI := Aside0.mk (show (rd x j).natAbs ≤ 4611686018427387904 from by rw [rd_get _ _ hjl]; exact HIN.out _ (List.getElem_mem hjl))
          obtain ⟨y, hy⟩ : ∃ y, rd x j = y := ⟨_, rfl⟩
          rw [hy] at hx HS HTS HXI
          obtain ⟨b, hbb⟩ : ∃ b, decide (tot (x.take j) + (y.natAbs : Int) ≤ 4611686018427387904) = b := ⟨_, rfl⟩
          have HBB := Aside0.mk hbb
          have HAD := Aside0.mk (add_any gA (x.take j).sum (tot (x.take j)) y (.float .f64 0) (.float .f64 0) wj HAd.out.2 (tot_nonneg _) HTT.out HXI.out)
          rw [hbb] at HAD
          clear hbb hy
          cases b with
          | false =>
            go_wp2_with (go_at_call 51; refine HAD.out.mono ?_; rintro e w5 ⟨rfl, hk5, hbt5⟩; have HK5 := Aside0.mk hk5; have HB5 := Aside0.mk (show Below wr.heap.size wr w5 from hbt5.below HBj.out HBj.out.size (Nat.le_of_eq HGA.out)); clear hk5 hbt5; have hk9 := (HB5.out.block (w.heap.size + 1) (Array.getElem?_eq_some_iff.1 HK0.out).1).trans HK0.out; obtain ⟨⟨q0, q1⟩, ⟨q2, q3⟩, ⟨q4, q5⟩⟩ := blk3_put hk9 (.slice none 0 0) (.slice none 0 0) (.slice none 0 0); have hz3 := blk3_three hk9 (.slice none 0 0) (.slice none 0 0) (.slice none 0 0); obtain ⟨r0, r1, r2⟩ := blk3_c hz3; clear hk9 hz3)
            refine bodyPost_ret (v := .tuple #[.agg #[.slice none 0 0, .slice none 0 0, .slice none 0 0], .int .i64 11]) (by simp [results, Tryz.results25, go_sem, r0, r1, r2]) rfl ?_
            have hno : ¬ ∀ t ∈ P, tot t ≤ 4611686018427387904 := fun h => by
              have h2 := h x HT3.out
              have h3 := of_decide_eq_false HBB.out
              have h4 := tot_take x (j + 1)
              rw [HTS.out] at h4
              omega
            have e := HRR.out
            rw [sumTo, HP0.out, if_neg hno] at e
            obtain ⟨rfl, rfl⟩ := Prod.mk.inj e
            have hBW : Below w.heap.size w w5 := below_then (below_then (below_then H0.out.1 H0.out.1.size HB4.out) (Nat.le_trans H0.out.1.size HB4.out.size) HO.out.bel) (Nat.le_trans (Nat.le_trans H0.out.1.size HB4.out.size) HO.out.bel.size) HB5.out
            exact ⟨none, 0, none, 0, none, 0, rfl, WMk.none _ _, ((hBW.setCell (p := ⟨w.heap.size + 1, 0, none⟩) (show w.heap.size ≤ w.heap.size + 1 by omega) _).setCell (p := ⟨w.heap.size + 1, 1, none⟩) (show w.heap.size ≤ w.heap.size + 1 by omega) _).setCell (p := ⟨w.heap.size + 1, 2, none⟩) (show w.heap.size ≤ w.heap.size + 1 by omega) _⟩
          | true =>
            go_wp2_with (go_at_call 51; refine HAD.out.mono ?_; rintro e w5 ⟨rfl, hk5, hbt5⟩; have HK5 := Aside0.mk hk5; have HB5 := Aside0.mk (show Below wr.heap.size wr w5 from hbt5.below HBj.out HBj.out.size (Nat.le_of_eq HGA.out)); clear hk5 hbt5)
            go_roundw
            case measure => simp [intOf]; omega
            case rel =>
              have h3 := of_decide_eq_true HBB.out
              have h5 : wrap64 ((x.take j).sum + y) = (x.take (j + 1)).sum := by
                have h6 := sum_le_tot (x.take (j + 1))
                rw [HTS.out] at h6
                rw [HS.out] at h6 ⊢
                exact Go.IntWalk.wrap64_in _ (by omega)
              refine ⟨j + 1, by omega, by go_num, ⟨by rw [HTS.out]; exact h3⟩, ⟨by rw [← HGA.out]; exact HB5.out, ?_⟩⟩
              rw [HTS.out, ← h5]
              exact HK5.out
        · rw [List.take_of_length_le (by omega)] at HTT HAd
          have HO6 := Aside0.mk (HO.out.step HBj.out)
          have p2 := (blk3_c HO6.out.blk).2.2
          rw [HG.out] at p2
          have p3 := (blk4_c HAd.out.2).1
          go_wp2_with (at_builtin; refine app_w (w := wj) w4.heap.size (fun k => w4.heap.size < k) rfl (.tmp 40) (.tmp 43) rfl (.slice As M.length cs) M x.sum rfl rfl (fun k hk => by have := (Array.getElem?_eq_some_iff.1 HO6.out.blk).1; omega) HO6.out.row (Below.refl _ _) HO6.out.bel.size (by have := HLM.out; omega) ?_; intro v1 w8 HV8 HB8 HG8; obtain ⟨A9, c9, rfl⟩ := Kd.R_slice HV8.out; have hbk := HO6.out.at2 HG8.out.1; rw [HG.out] at hbk; have p8 := (blk3_c hbk).2.2; have p9 := blk_fr (i := 2) hbk; have HP8 := Aside0.mk (HO6.out.push HG8.out.1 HV8.out); clear hbk)
          go_roundw
          case rel =>
            refine ⟨k + 1, .slice A9 (M.length + 1) c9, M ++ [x.sum], by omega, by go_num, ⟨HT1.out.2 ⟨HOK.out, HTT.out⟩⟩, ⟨by rw [HT2.out, HMM.out]⟩, ⟨?_⟩⟩
            rw [← HG.out]
            have h := HP8.out
            rw [List.length_append] at h
            exact h
          case measure => simp [intOf]; omega
    · have hke : k = R.length := by omega
      subst hke
      rw [List.take_of_length_le (Nat.le_of_eq HPL.out)] at HOK HMM
      have hbo := HO.out.blk
      rw [HG.out] at hbo
      obtain ⟨s0, s1, s2⟩ := blk3_c hbo
      obtain ⟨⟨q0, q1⟩, ⟨q2, q3⟩, ⟨q4, q5⟩⟩ := blk3_put HK0.out (.slice A2 on.length c2) (.slice A3 R.length c3) (.slice As M.length cs)
      have hz3 := blk3_three HK0.out (.slice A2 on.length c2) (.slice A3 R.length c3) (.slice As M.length cs)
      obtain ⟨r0, r1, r2⟩ := blk3_c hz3
      clear hbo hz3
      go_wp2
      refine bodyPost_ret (v := .tuple #[.agg #[.slice A2 on.length c2, .slice A3 R.length c3, .slice As M.length cs], .int .i64 0]) (by simp [results, Tryz.results25, go_sem, r0, r1, r2]) rfl ?_
      have e := HRR.out
      rw [sumTo, HP0.out, if_pos HOK.out, HMM.out] at e
      obtain ⟨rfl, rfl⟩ := Prod.mk.inj e
      have hW1 : w.heap.size + 1 < W0.heap.size := by have := H0.out.2.2.2; omega
      have hz1 := HS4.out
      have hfar : ∀ {V : World} (k : Nat) (u : Value), RelM V w4.heap.size (.agg #[.slice A2 on.length c2, .slice A3 R.length c3]) (on, R) → True := fun _ _ _ => trivial
      have hfarM : ∀ {V : World} (k : Nat) (u : Value), RelM V W0.heap.size (.agg #[.slice A2 on.length c2, .slice A3 R.length c3]) (on, R) → RelM (V.setCell ⟨w.heap.size + 1, k, none⟩ u) W0.heap.size (.agg #[.slice A2 on.length c2, .slice A3 R.length c3]) (on, R) := fun k u h => h.far (p := ⟨w.heap.size + 1, k, none⟩) hW1 u
      have hrow : ∀ {V : World} (k : Nat) (u : Value), Kd.R KI 2 V w4.heap.size (fun k => w4.heap.size < k) (.slice As M.length cs) M → Kd.R KI 2 (V.setCell ⟨w.heap.size + 1, k, none⟩ u) w4.heap.size (fun k => w4.heap.size < k) (.slice As M.length cs) M := fun k u h => Kd.R_far h (p := ⟨w.heap.size + 1, k, none⟩) (fun q hq => by show q ≠ w.heap.size + 1; omega) u
      have hM5 := hfarM 2 (.slice As M.length cs) (hfarM 1 (.slice A3 R.length c3) (hfarM 0 (.slice A2 on.length c2) (RelM.below H4.out.1 HO.out.bel)))
      have hR5 := hrow 2 (.slice As M.length cs) (hrow 1 (.slice A3 R.length c3) (hrow 0 (.slice A2 on.length c2) HO.out.row))
      have hBW : Below w.heap.size w wr := below_then (below_then H0.out.1 H0.out.1.size HB4.out) (Nat.le_trans H0.out.1.size HB4.out.size) HO.out.bel
      exact ⟨A2, c2, A3, c3, As, cs, rfl, ⟨hM5.lower (by omega), Kd.R_lower (Kd.R_mono hR5 (fun k hk => by show w.heap.size ≤ k; omega)) (by omega)⟩, ((hBW.setCell (p := ⟨w.heap.size + 1, 0, none⟩) (show w.heap.size ≤ w.heap.size + 1 by omega) _).setCell (p := ⟨w.heap.size + 1, 1, none⟩) (show w.heap.size ≤ w.heap.size + 1 by omega) _).setCell (p := ⟨w.heap.size + 1, 2, none⟩) (show w.heap.size ≤ w.heap.size + 1 by omega) _⟩
end
end Go.Proofs.YtlmkgghpaaadhaaGreatDoor.G

/- weigh.Min, walked. -/
set_option linter.unusedVariables false
set_option linter.unusedSimpArgs false
namespace Go.Proofs.YtlmkgghpaaadhaaGreatDoor.G
open Go.RowKit Go.Proofs.YtlmkgghpaaadhaaGreatDoorW.PrintWords Go.Proofs.YtlmkgghpaaadhaaGreatDoorW.PrintLast Go.Proofs.YtlmkgghpaaadhaaGreatDoorW.PrintMore
theorem least_succ (l : List Int) (k : Nat) (h0 : 0 < k) (hk : k < l.length) : least (l.take (k + 1)) = min (least (l.take k)) (rd l k) := by
  rw [take_succ_rd l k hk]
  match l, k, h0, hk with
  | x :: l, k + 1, _, hk => rw [List.take_succ_cons]; simp only [List.cons_append, least, List.foldl_append, List.foldl_cons, List.foldl_nil]
set_option maxHeartbeats 2000000 in
theorem smin_any (A : Option Addr) (c : Nat) (l : List Int) (w : World) (hr : Kd.C KI w A l.length l) (h0 : 0 < l.length) :
    Calls Tryz.prog 52 #[.slice A l.length c] w fun e w' => e = .returned (.int .i64 (least l)) ∧ w = w' := by
  have HR := Aside0.mk hr
  have hm : l.length ≤ 9223372036854775807 := hr.2.1
  obtain ⟨ad, rfl, hx⟩ := at_int' hr (Below.refl _ _) 0 (by omega) (by omega)
  have hl0 : (0 : Int) < (l.length : Int) := by omega
  have hl1 : ¬ ((l.length : Int) < 1) := by omega
  have hl2 : decide ((l.length : Int) < 1) = false := decide_eq_false hl1
  have HF := Aside0.mk (show rd l 0 = least (l.take 1) from by
    match l, h0 with
    | x :: l, _ => rfl)
  rw [HF.out] at hx
  simp only [Int.toNat_zero, Addr.add_zero'] at hx
  have hln : ¬ (l.length < 1) := by omega
  clear hr
  go_enter Tryz.func52, Tryz.ntmps52
  go_wp2
  clear hx hl1 hl2 hln
  go_loopw [3, 4] (fun m i W => ∃ (k : Nat), 0 < k ∧ k ≤ l.length ∧ i = .int .i64 k ∧ m = .int .i64 (least (l.take k)) ∧ W = w) (fun _ i _ => l.length - (intOf i).toNat)
  case atStart => exact ⟨1, by omega, by omega, rfl, rfl, rfl⟩
  case round =>
    obtain ⟨k, hk0, hk, rfl, rfl, rfl⟩ := hrel
    by_cases hlt : k < l.length
    · have hkl : (k : Int) < (l.length : Int) := by omega
      obtain ⟨ad', e', hx⟩ := at_int' HR.out (Below.refl _ _) (k : Int) (by omega) hkl
      obtain rfl := Option.some.inj e'
      simp only [Int.toNat_natCast] at hx
      have HL := Aside0.mk (least_succ l k hk0 hlt)
      go_wp2
      go_roundw
      case measure => simp [intOf]; omega
      case rel => exact ⟨k + 1, by omega, by omega, by go_num, by rw [HL.out], trivial⟩
    · have hke : k = l.length := by omega
      subst hke
      go_wp2
      have HTL := Aside0.mk (congrArg least (List.take_length (l := l)))
      go_ret
      exact ⟨by first | rfl | (rw [← HTL.out]; rfl), rfl⟩

section
variable {A : Option Addr} {c : Nat} {A' : Option Addr} {c' : Nat} {Aw : Option Addr} {cw : Nat} {a : WRel} {Av : Option Addr} {cv : Nat} {vars : List Int} {w : World}
set_option maxHeartbeats 8000000 in
set_option maxRecDepth 100000 in
theorem min_any (h : WRd w A c a.sc A' c' a.L Aw cw a.ws) (hv : Kd.C KI w Av vars.length vars) (hm : a.sc.length ≤ 1000000) (hm1 : a.L.length ≤ 1000000) (hm2 : vars.length ≤ 1000000) {on : List Int} {R : List (List Int)} (hP : projRel a.sc a.L vars = (on, R)) (ho : Ord R) (hol : on.length ≤ 1000000) (hRl : R.length ≤ 1000000) {r : WRel} (hr : minTo a on R = r) :
    Calls Tryz.prog 26 #[.agg #[.slice A a.sc.length c, .slice A' a.L.length c', .slice Aw a.ws.length cw], .slice Av vars.length cv] w fun e w' => WTo w w' e r := by
  have HRR := Aside0.mk hr
  have HPJ := Aside0.mk (fun (W : World) (h0 : WRd W A c a.sc A' c' a.L Aw cw a.ws) (h1 : Kd.C KI W Av vars.length vars) => parted_any (cv := cv) h0 h1 hm hm1 hm2 hP ho hol hRl)
  have HR := Aside0.mk (And.intro h hv)
  have hPL : (partedTo a on R).length = R.length := by simp [partedTo]
  obtain ⟨P, hP0⟩ : ∃ P, partedTo a on R = P := ⟨_, rfl⟩
  rw [hP0] at hPL
  have HP0 := Aside0.mk hP0
  have HPL := Aside0.mk hPL
  obtain ⟨W0, hW0⟩ : ∃ W0, (w.alloc (.cells #[.slice A a.sc.length c, .slice A' a.L.length c', .slice Aw a.ws.length cw] 37)).alloc (.cells #[.slice none 0 0, .slice none 0 0, .slice none 0 0] 37) = W0 := ⟨_, rfl⟩
  have hb0 : Below w.heap.size w W0 := by rw [← hW0]; exact below_alloc (below_alloc (Below.refl _ _) _) _
  have hk0 : W0.heap[w.heap.size]? = some (.cells #[.slice A a.sc.length c, .slice A' a.L.length c', .slice Aw a.ws.length cw] 37 (0, 0)) := by rw [← hW0]; exact blk_two1 _ _ _
  have hz0 : W0.heap[w.heap.size + 1]? = some (.cells #[.slice none 0 0, .slice none 0 0, .slice none 0 0] 37 (0, 0)) := by rw [← hW0]; exact blk_two2 _ _ _
  have hs0 : W0.heap.size = w.heap.size + 2 := by rw [← hW0]; simp
  have H0 := Aside0.mk (And.intro hb0 (And.intro hk0 (And.intro hz0 hs0)))
  obtain ⟨q0, q1, q2⟩ := blk3_c hk0
  clear h hv hP ho hb0 hk0 hz0 hs0 hr hP0 hPL
  go_enter Tryz.func26, Tryz.ntmps26
  go_wp2_with (go_at_call 50; refine (HPJ.out _ (HR.out.1.step H0.out.1) (Kd.C_below HR.out.2 H0.out.1)).mono ?_; rintro e w1 ⟨A2, c2, A3, c3, A4, c4, rfl, hM, hC4, hc4, hb1⟩; have HM := Aside0.mk (And.intro hM (And.intro hb1 hC4)); clear hM hb1 hC4 hc4)
  clear hW0 q0 q1 q2
  rename World => w1
  obtain ⟨w4, hw4⟩ : ∃ w4, w1.alloc (.cells #[.slice A2 on.length c2, .slice A3 R.length c3] 31) = w4 := ⟨_, rfl⟩
  have hg4 : w4.heap.size = w1.heap.size + 1 := by rw [← hw4]; simp
  have hb4 : Below w1.heap.size w1 w4 := by rw [← hw4]; exact below_alloc (Below.refl _ _) _
  have HB4 := Aside0.mk (below_then HM.out.2.1 HM.out.2.1.size hb4)
  have H4 := Aside0.mk (And.intro (HM.out.1.below hb4) (show Kd.C KLw w4 A4 P.length P from by rw [HPL.out, ← HP0.out]; exact Kd.C_below HM.out.2.2 hb4))
  have HS4 := Aside0.mk (show w.heap.size + 1 < w4.heap.size from by have := HM.out.2.1.size; have := H0.out.2.2.2; omega)
  have HWO := Aside0.mk (WOut.new w4 (.slice A2 on.length c2) (.slice A3 R.length c3))
  have hz4 := (HB4.out.block (w.heap.size + 1) (by have := H0.out.2.2.2; omega)).trans H0.out.2.2.1
  have HZ4 := Aside0.mk hz4
  simp only [hw4, ← hg4]
  generalize w4.alloc (.cells #[.slice A2 on.length c2, .slice A3 R.length c3, .slice none 0 0] 37) = W5 at HWO ⊢
  clear hw4 hb4 hz4 HM
  obtain ⟨g, hg⟩ : ∃ g, w4.heap.size = g := ⟨_, rfl⟩
  have HG := Aside0.mk hg
  rw [hg]
  clear hg hg4
  go_loopw [21] (fun i W => ∃ (k : Nat) (s : Value) (M : List Int), k ≤ R.length ∧ i = .int .i64 k ∧ Aside0 (∀ t ∈ P.take k, t = t) ∧ Aside0 ((P.take k).map least = M) ∧ Aside0 (WOut w4 (.slice A2 on.length c2) (.slice A3 R.length c3) s M W)) (fun i _ => R.length - (intOf i).toNat)
  case atStart => exact ⟨0, _, [], Nat.zero_le _, rfl, ⟨by simp⟩, ⟨rfl⟩, HWO⟩
  case round =>
    clear HWO
    obtain ⟨k, s, M, hk, rfl, HOK, HMM, HO⟩ := hrel
    obtain ⟨As, cs, rfl, hcs, hCs⟩ := Kd.R_reads HO.out.row
    clear hcs hCs
    have hk0 := (HO.out.bel.block (w.heap.size + 1) HS4.out).trans HZ4.out
    have HK0 := Aside0.mk hk0
    clear hk0
    by_cases hlt : k < R.length
    · have hkl : (k : Int) < (R.length : Int) := by omega
      have hkp : k < P.length := by rw [HPL.out]; exact hlt
      obtain ⟨ad, Bx, cx, rfl, hx, _, hcx⟩ := at_rowW H4.out.2 HO.out.bel k hkp
      have HLM := Aside0.mk (show M.length ≤ k from by rw [← HMM.out, List.length_map, List.length_take]; omega)
      have HT1' := Aside0.mk trivial
      have HT1 := Aside0.mk (show (∀ t ∈ P.take (k + 1), tot t ≤ 4611686018427387904) ↔ (∀ t ∈ P.take k, tot t ≤ 4611686018427387904) ∧ tot (P.getD k []) ≤ 4611686018427387904 from by
        rw [List.take_succ_eq_append_getElem hkp, getD_get _ _ hkp]
        simp only [List.mem_append, List.mem_singleton]
        exact ⟨fun h => ⟨fun t ht => h t (.inl ht), h _ (.inr rfl)⟩, fun h t ht => ht.elim (h.1 t) (fun e => e ▸ h.2)⟩)
      have HT2 := Aside0.mk (map_take_getD least P k hkp)
      have HT3 := Aside0.mk (show P.getD k [] ∈ P from by rw [getD_get _ _ hkp]; exact List.getElem_mem hkp)
      obtain ⟨x, hxe⟩ : ∃ x, P.getD k [] = x := ⟨_, rfl⟩
      rw [hxe] at hx hcx HT1 HT2 HT3
      clear hxe
      have hxm : x.length ≤ 9223372036854775807 := hcx.2.1
      have HLE := Aside0.mk (show ∀ y, least x = y → (P.take (k + 1)).map least = (P.take k).map least ++ [y] from fun y h => by rw [HT2.out, h])
      obtain ⟨y, hy⟩ : ∃ y, least x = y := ⟨_, rfl⟩
      have HLY := Aside0.mk (HLE.out y hy)
      by_cases hx0 : 0 < x.length
      · have hxi : (0 : Int) < (x.length : Int) := by omega
        have HMI := Aside0.mk (smin_any Bx cx x wr hcx hx0)
        rw [hy] at HMI
        clear hcx HLE hy
        have p2 := (blk3_c HO.out.blk).2.2
        rw [HG.out] at p2
        go_wp2_with (first | (go_at_call 52; refine HMI.out.mono ?_; rintro e w5 ⟨rfl, rfl⟩) | (at_builtin; refine app_w (w := wr) w4.heap.size (fun k => w4.heap.size < k) rfl (.tmp 31) (.tmp 33) rfl (.slice As M.length cs) M y rfl rfl (fun k hk => by have := (Array.getElem?_eq_some_iff.1 HO.out.blk).1; omega) HO.out.row (Below.refl _ _) HO.out.bel.size (by have := HLM.out; omega) ?_; intro v1 w8 HV8 HB8 HG8; obtain ⟨A9, c9, rfl⟩ := Kd.R_slice HV8.out; have hbk := HO.out.at2 HG8.out.1; rw [HG.out] at hbk; have p8 := (blk3_c hbk).2.2; have p9 := blk_fr (i := 2) hbk; have HP8 := Aside0.mk (HO.out.push HG8.out.1 HV8.out); clear hbk))
        go_roundw
        case rel =>
          refine ⟨k + 1, .slice A9 (M.length + 1) c9, M ++ [y], by omega, by go_num, ⟨fun _ _ => trivial⟩, ⟨by rw [HLY.out, HMM.out]⟩, ⟨?_⟩⟩
          rw [← HG.out]
          have h := HP8.out
          rw [List.length_append] at h
          exact h
        case measure => simp [intOf]; omega
      · have hxn : x = [] := List.eq_nil_of_length_eq_zero (by omega)
        subst hxn
        obtain rfl : y = 0 := hy.symm
        clear hcx HLE hy
        have p2 := (blk3_c HO.out.blk).2.2
        rw [HG.out] at p2
        go_wp2_with (at_builtin; refine app_w (w := wr) w4.heap.size (fun k => w4.heap.size < k) rfl (.tmp 31) (.tmp 33) rfl (.slice As M.length cs) M 0 rfl rfl (fun k hk => by have := (Array.getElem?_eq_some_iff.1 HO.out.blk).1; omega) HO.out.row (Below.refl _ _) HO.out.bel.size (by have := HLM.out; omega) ?_; intro v1 w8 HV8 HB8 HG8; obtain ⟨A9, c9, rfl⟩ := Kd.R_slice HV8.out; have hbk := HO.out.at2 HG8.out.1; rw [HG.out] at hbk; have p8 := (blk3_c hbk).2.2; have p9 := blk_fr (i := 2) hbk; have HP8 := Aside0.mk (HO.out.push HG8.out.1 HV8.out); clear hbk)
        go_roundw
        case rel =>
          refine ⟨k + 1, .slice A9 (M.length + 1) c9, M ++ [0], by omega, by go_num, ⟨fun _ _ => trivial⟩, ⟨by rw [HLY.out, HMM.out]⟩, ⟨?_⟩⟩
          rw [← HG.out]
          have h := HP8.out
          rw [List.length_append] at h
          exact h
        case measure => simp [intOf]; omega
    · have hke : k = R.length := by omega
      subst hke
      rw [List.take_of_length_le (Nat.le_of_eq HPL.out)] at HOK HMM
      have hbo := HO.out.blk
      rw [HG.out] at hbo
      obtain ⟨s0, s1, s2⟩ := blk3_c hbo
      obtain ⟨⟨q0, q1⟩, ⟨q2, q3⟩, ⟨q4, q5⟩⟩ := blk3_put HK0.out (.slice A2 on.length c2) (.slice A3 R.length c3) (.slice As M.length cs)
      have hz3 := blk3_three HK0.out (.slice A2 on.length c2) (.slice A3 R.length c3) (.slice As M.length cs)
      obtain ⟨r0, r1, r2⟩ := blk3_c hz3
      clear hbo hz3
      go_wp2
      refine bodyPost_ret (v := .agg #[.slice A2 on.length c2, .slice A3 R.length c3, .slice As M.length cs]) (by simp [results, Tryz.results26, go_sem, r0, r1, r2]) rfl ?_
      have e := HRR.out
      rw [minTo, HP0.out, HMM.out] at e
      subst e
      have hW1 : w.heap.size + 1 < W0.heap.size := by have := H0.out.2.2.2; omega
      have hz1 := HS4.out
      have hfar : ∀ {V : World} (k : Nat) (u : Value), RelM V w4.heap.size (.agg #[.slice A2 on.length c2, .slice A3 R.length c3]) (on, R) → True := fun _ _ _ => trivial
      have hfarM : ∀ {V : World} (k : Nat) (u : Value), RelM V W0.heap.size (.agg #[.slice A2 on.length c2, .slice A3 R.length c3]) (on, R) → RelM (V.setCell ⟨w.heap.size + 1, k, none⟩ u) W0.heap.size (.agg #[.slice A2 on.length c2, .slice A3 R.length c3]) (on, R) := fun k u h => h.far (p := ⟨w.heap.size + 1, k, none⟩) hW1 u
      have hrow : ∀ {V : World} (k : Nat) (u : Value), Kd.R KI 2 V w4.heap.size (fun k => w4.heap.size < k) (.slice As M.length cs) M → Kd.R KI 2 (V.setCell ⟨w.heap.size + 1, k, none⟩ u) w4.heap.size (fun k => w4.heap.size < k) (.slice As M.length cs) M := fun k u h => Kd.R_far h (p := ⟨w.heap.size + 1, k, none⟩) (fun q hq => by show q ≠ w.heap.size + 1; omega) u
      have hM5 := hfarM 2 (.slice As M.length cs) (hfarM 1 (.slice A3 R.length c3) (hfarM 0 (.slice A2 on.length c2) (RelM.below H4.out.1 HO.out.bel)))
      have hR5 := hrow 2 (.slice As M.length cs) (hrow 1 (.slice A3 R.length c3) (hrow 0 (.slice A2 on.length c2) HO.out.row))
      have hBW : Below w.heap.size w wr := below_then (below_then H0.out.1 H0.out.1.size HB4.out) (Nat.le_trans H0.out.1.size HB4.out.size) HO.out.bel
      exact ⟨A2, c2, A3, c3, As, cs, rfl, ⟨hM5.lower (by omega), Kd.R_lower (Kd.R_mono hR5 (fun k hk => by show w.heap.size ≤ k; omega)) (by omega)⟩, ((hBW.setCell (p := ⟨w.heap.size + 1, 0, none⟩) (show w.heap.size ≤ w.heap.size + 1 by omega) _).setCell (p := ⟨w.heap.size + 1, 1, none⟩) (show w.heap.size ≤ w.heap.size + 1 by omega) _).setCell (p := ⟨w.heap.size + 1, 2, none⟩) (show w.heap.size ≤ w.heap.size + 1 by omega) _⟩
end
end Go.Proofs.YtlmkgghpaaadhaaGreatDoor.G
