/- Plain laws of relations: what is cut, selected, united, made. No program in sight. -/
import Derived.Test.YtlinhcgggfdlpaaSelect
import Derived.Test.YtlinhcgggfdlpaaUnion
import Derived.Test.YtlinhcgggfdlpaaRight
import Derived.Test.YtlinhcgggfdlpaaVals
set_option linter.unusedVariables false
set_option linter.unusedSimpArgs false
namespace Go.Proofs.Ytlinhcgggfdlpaa.G
open Go.RowKit Go.Proofs.YtlinhcgggfdlpaaW.PrintWords Go.Proofs.YtlinhcgggfdlpaaW.PrintLast Go.Proofs.YtlinhcgggfdlpaaW.PrintMore
theorem memF {α : Type} {l : List α} {p : α → Bool} {x : α} (h : x ∈ l.filter p) : x ∈ l := (List.mem_filter.1 h).1

/-! ### what two rising rows share -/
theorem merge_meet (l m : List Int) : Rise l → Rise m → merge false true false l m = l.filter fun x => decide (x ∈ m) := by
  induction l, m using merge.induct with
  | case1 => intro _ _; unfold merge; rfl
  | case2 x l ih =>
    intro h1 h2
    unfold merge
    rw [ih (List.pairwise_cons.1 h1).2 h2]
    simp
  | case3 y m ih =>
    intro h1 h2
    unfold merge
    rw [ih h1 (List.pairwise_cons.1 h2).2]
    simp
  | case4 x l y m h ih =>
    intro h1 h2
    have h1' := List.pairwise_cons.1 h1
    have h2' := List.pairwise_cons.1 h2
    unfold merge
    rw [if_pos h, ih h1'.2 h2]
    have hx : ¬ x ∈ y :: m := fun hx => by
      rcases List.mem_cons.1 hx with e | e
      · omega
      · have := h2'.1 x e; omega
    rw [List.filter_cons_of_neg (by simpa using hx)]
    rfl
  | case5 x l y m h h' ih =>
    intro h1 h2
    have h1' := List.pairwise_cons.1 h1
    have h2' := List.pairwise_cons.1 h2
    unfold merge
    rw [if_neg h, if_pos h', ih h1 h2'.2]
    refine List.filter_congr fun z hz => ?_
    have hzy : z ≠ y := by
      rcases List.mem_cons.1 hz with e | e
      · omega
      · have := h1'.1 z e; omega
    simp [hzy]
  | case6 x l y m h h' ih =>
    intro h1 h2
    have h1' := List.pairwise_cons.1 h1
    have h2' := List.pairwise_cons.1 h2
    have e : x = y := by omega
    subst e
    unfold merge
    rw [if_neg h, if_neg h', ih h1'.2 h2'.2, List.filter_cons_of_pos (by simp)]
    simp only [if_true, List.singleton_append]
    congr 1
    refine List.filter_congr fun z hz => ?_
    have hzx : z ≠ x := by have := h1'.1 z hz; omega
    simp [hzx]
theorem onto_eq (sc vars : List Int) (h : Rise sc) : onto sc vars = sc.filter fun x => decide (x ∈ vars) := by
  unfold onto
  rw [merge_meet sc (uniqI vars) h (uniqI_spec vars).1]
  exact List.filter_congr fun z _ => by rw [decide_eq_decide, (uniqI_spec vars).2]
theorem Rise.filter {l : List Int} (h : Rise l) (p : Int → Bool) : Rise (l.filter p) := List.Pairwise.filter p h
theorem Rise.nodup {l : List Int} (h : Rise l) : l.Nodup := List.Pairwise.imp (fun {a b} (hab : a < b) => by omega) h

/-! ### the value that a row has of a variable -/
def look (sc t : List Int) (v : Int) : Int := rd t (idx sc v)
theorem idx_in {sc : List Int} {v : Int} (h : v ∈ sc) : idx sc v = ((sc.idxOf v : Nat) : Int) ∧ sc.idxOf v < sc.length := ⟨if_pos h, List.idxOf_lt_length_of_mem h⟩
theorem idx_out {sc : List Int} {v : Int} (h : ¬ v ∈ sc) : idx sc v = -1 := if_neg h
theorem look_map {on : List Int} {v : Int} (h : v ∈ on) (f : Int → Int) : look on (on.map f) v = f v := by
  obtain ⟨h1, h2⟩ := idx_in h
  unfold look
  rw [h1, rd_get _ _ (by simpa using h2), List.getElem_map, List.getElem_idxOf]
theorem look_self {sc t : List Int} (hs : sc.Nodup) (ht : t.length = sc.length) : sc.map (look sc t) = t := by
  refine List.ext_getElem (by simp [ht]) fun i h1 h2 => ?_
  rw [List.getElem_map]
  have hi : i < sc.length := by simpa using h1
  unfold look
  rw [(idx_in (List.getElem_mem hi)).1, List.Nodup.idxOf_getElem hs, rd_get _ _ h2]
theorem pick_look (sc t on : List Int) (ht : t.length = sc.length) (ho : ∀ v ∈ on, v ∈ sc) : pick t (on.map (idx sc)) = on.map (look sc t) := by
  induction on with
  | nil => rfl
  | cons v on ih =>
    obtain ⟨h1, h2⟩ := idx_in (ho v List.mem_cons_self)
    have ih' := ih fun u hu => ho u (List.mem_cons_of_mem _ hu)
    unfold pick at ih' ⊢
    rw [List.map_cons, List.filterMap_cons_some (b := look sc t v) (by rw [if_pos (by omega)]; rfl), ih', List.map_cons]
theorem cut_look (sc : List Int) (rows : List (List Int)) (on : List Int) (hr : ∀ t ∈ rows, t.length = sc.length) (ho : ∀ v ∈ on, v ∈ sc) : cutRows sc rows on = Pl.sortU (rows.map fun t => on.map (look sc t)) := by
  unfold cutRows
  congr 1
  exact List.map_congr_left fun t ht => pick_look sc t on (hr t ht) ho
theorem cut_row (sc : List Int) (rows : List (List Int)) (on : List Int) (hr : ∀ t ∈ rows, t.length = sc.length) (ho : ∀ v ∈ on, v ∈ sc) : ∀ x ∈ cutRows sc rows on, x.length = on.length := fun x hx => by
  rw [cut_look sc rows on hr ho, Pl.mem_sortU] at hx
  obtain ⟨t, _, rfl⟩ := List.mem_map.1 hx
  simp
theorem cutRows_up (sc : List Int) (rows : List (List Int)) (on : List Int) : Pl.Up (cutRows sc rows on) := Pl.sortU_up _
/-- Cut to less is cut to less at once. -/
theorem cut_cut (sc : List Int) (rows : List (List Int)) (on on2 : List Int) (hr : ∀ t ∈ rows, t.length = sc.length) (ho : ∀ v ∈ on, v ∈ sc) (ho2 : ∀ v ∈ on2, v ∈ on) : cutRows on (cutRows sc rows on) on2 = cutRows sc rows on2 := by
  rw [cut_look on _ on2 (cut_row sc rows on hr ho) ho2, cut_look sc rows on2 hr (fun v hv => ho v (ho2 v hv)), cut_look sc rows on hr ho]
  refine Pl.sortU_congr fun x => ?_
  have key : ∀ t, on2.map (look on (on.map (look sc t))) = on2.map (look sc t) := fun t => List.map_congr_left fun v hv => look_map (ho2 v hv) _
  constructor
  · intro hx
    obtain ⟨y, hy, rfl⟩ := List.mem_map.1 hx
    obtain ⟨t, ht, rfl⟩ := List.mem_map.1 (Pl.mem_sortU.1 hy)
    exact List.mem_map.2 ⟨t, ht, (key t).symm⟩
  · intro hx
    obtain ⟨t, ht, rfl⟩ := List.mem_map.1 hx
    exact List.mem_map.2 ⟨on.map (look sc t), Pl.mem_sortU.2 (List.mem_map.2 ⟨t, ht, rfl⟩), key t⟩
theorem cut_self (sc : List Int) (rows : List (List Int)) (hs : sc.Nodup) (hr : ∀ t ∈ rows, t.length = sc.length) (hu : Pl.Up rows) : cutRows sc rows sc = rows := by
  rw [cut_look sc rows sc hr (fun v hv => hv), show (rows.map fun t => sc.map (look sc t)) = rows from by
    conv => rhs; rw [← List.map_id rows]
    exact List.map_congr_left fun t ht => look_self hs (hr t ht)]
  exact Pl.sortU_of_up hu
theorem cut_none (sc : List Int) (rows : List (List Int)) (on : List Int) : (cutRows sc rows on = []) ↔ rows = [] := by
  constructor
  · intro h
    cases rows with
    | nil => rfl
    | cons t rows =>
      have : pick t (on.map (idx sc)) ∈ cutRows sc (t :: rows) on := by unfold cutRows; rw [Pl.mem_sortU]; exact List.mem_cons_self
      rw [h] at this
      cases this
  · rintro rfl; rfl

/-! ### right relations -/
theorem right_pos {sc : List Int} (h : Rise sc) : ¬ (0 < sc.length ∧ rd sc 0 < 0) ↔ ∀ x ∈ sc, 0 ≤ x := by
  cases sc with
  | nil => simp
  | cons a l =>
    have h' := (List.pairwise_cons.1 h).1
    have e : rd (a :: l) 0 = a := rd_get (a :: l) 0 (by simp)
    rw [e]
    constructor
    · intro h1 x hx
      rcases List.mem_cons.1 hx with e | e
      · subst e; simp at h1; omega
      · have := h' x e; simp at h1; omega
    · intro h1 ⟨_, h2⟩
      have := h1 a List.mem_cons_self
      omega
theorem right_proj {sc : List Int} {rows : List (List Int)} (h : RightP sc rows) (vars : List Int) : RightP (projRel sc rows vars).1 (projRel sc rows vars).2 := by
  obtain ⟨⟨h1, h2⟩, h3, h4⟩ := h
  unfold projRel
  rw [onto_eq sc vars h1]
  refine ⟨⟨h1.filter _, ?_⟩, ?_, cutRows_up _ _ _⟩
  · rw [right_pos (h1.filter _)]
    exact fun x hx => (right_pos h1).1 h2 x (memF hx)
  · exact cut_row sc rows _ h3 fun v hv => memF hv
theorem right_sel {sc : List Int} {rows : List (List Int)} (h : RightP sc rows) (v value : Int) : RightP (selRel sc rows v value).1 (selRel sc rows v value).2 :=
  ⟨h.1, fun t ht => h.2.1 t (memF ht), List.Pairwise.filter _ h.2.2⟩
theorem right_union {sc : List Int} {La Lb : List (List Int)} (h : RightP sc La) (h' : RightP sc Lb) : RightP sc (Pl.sortU (La ++ Lb)) :=
  ⟨h.1, fun t ht => (List.mem_append.1 (Pl.mem_sortU.1 ht)).elim (h.2.1 t) (h'.2.1 t), Pl.sortU_up _⟩

/-! ### RelTwice -/
theorem proj_proj {sc : List Int} {rows : List (List Int)} (h : RightP sc rows) (one two : List Int) : projRel (projRel sc rows one).1 (projRel sc rows one).2 two = (sc.filter fun x => decide (x ∈ one) && decide (x ∈ two), cutRows sc rows (sc.filter fun x => decide (x ∈ one) && decide (x ∈ two))) := by
  have h1 := h.1.1
  have hr := (right_proj h one).1.1
  have e1 : (projRel sc rows one).1 = sc.filter fun x => decide (x ∈ one) := onto_eq sc one h1
  have e2 : (projRel sc rows one).2 = cutRows sc rows (projRel sc rows one).1 := rfl
  have e3 : onto (projRel sc rows one).1 two = sc.filter fun x => decide (x ∈ one) && decide (x ∈ two) := by
    rw [onto_eq _ two hr, e1, List.filter_filter]
    exact List.filter_congr fun x _ => by rw [Bool.and_comm]
  rw [projRel, e3, e2, cut_cut sc rows _ _ h.2.1 (fun v hv => by rw [e1] at hv; exact memF hv) (fun v hv => by rw [e1]; rw [List.mem_filter] at hv ⊢; refine ⟨hv.1, ?_⟩; have := hv.2; simp at this; simpa using this.1)]
theorem proj_twice {sc : List Int} {rows : List (List Int)} (h : RightP sc rows) (one : List Int) : projRel (projRel sc rows one).1 (projRel sc rows one).2 one = projRel sc rows one := by
  rw [proj_proj h one one, projRel, onto_eq sc one h.1.1]
  have : (sc.filter fun x => decide (x ∈ one) && decide (x ∈ one)) = sc.filter fun x => decide (x ∈ one) := List.filter_congr fun x _ => by rw [Bool.and_self]
  rw [this]
theorem proj_swap {sc : List Int} {rows : List (List Int)} (h : RightP sc rows) (one two : List Int) : projRel (projRel sc rows one).1 (projRel sc rows one).2 two = projRel (projRel sc rows two).1 (projRel sc rows two).2 one := by
  rw [proj_proj h one two, proj_proj h two one]
  have : (sc.filter fun x => decide (x ∈ one) && decide (x ∈ two)) = sc.filter fun x => decide (x ∈ two) && decide (x ∈ one) := List.filter_congr fun x _ => by rw [Bool.and_comm]
  rw [this]
theorem proj_self {sc : List Int} {rows : List (List Int)} (h : RightP sc rows) : projRel sc rows sc = (sc, rows) := by
  have e : onto sc sc = sc := by rw [onto_eq sc sc h.1.1]; exact List.filter_eq_self.2 fun x hx => by simpa using hx
  rw [projRel, e, cut_self sc rows h.1.1.nodup h.2.1 h.2.2]

/-! ### RelPasses -/
theorem sel_sel (sc : List Int) (rows : List (List Int)) (v value : Int) : selRel (selRel sc rows v value).1 (selRel sc rows v value).2 v value = selRel sc rows v value := by
  unfold selRel
  rw [List.filter_filter]
  congr 1
  exact List.filter_congr fun x _ => by rw [Bool.and_self]
theorem selKeeps_in {sc t : List Int} {v value : Int} (hv : v ∈ sc) (ht : t.length = sc.length) : selKeeps (idx sc v) value t = decide (look sc t v = value) := by
  obtain ⟨h1, h2⟩ := idx_in hv
  unfold selKeeps look
  rw [decide_eq_decide]
  constructor
  · rintro (h | h)
    · omega
    · exact h.2
  · exact fun h => .inr ⟨by omega, h⟩
theorem selKeeps_out {sc t : List Int} {v value : Int} (hv : ¬ v ∈ sc) : selKeeps (idx sc v) value t = true := by
  rw [idx_out hv]; simp [selKeeps]
theorem sel_proj {sc : List Int} {rows : List (List Int)} (h : RightP sc rows) (v value : Int) (vs : List Int) :
    projRel (selRel sc rows v value).1 (selRel sc rows v value).2 (v :: vs) = selRel (projRel sc rows (v :: vs)).1 (projRel sc rows (v :: vs)).2 v value := by
  have e1 : onto sc (v :: vs) = sc.filter fun x => decide (x ∈ v :: vs) := onto_eq sc _ h.1.1
  have ho : ∀ u ∈ onto sc (v :: vs), u ∈ sc := fun u hu => by rw [e1] at hu; exact memF hu
  show (onto sc (v :: vs), cutRows sc (rows.filter (selKeeps (idx sc v) value)) (onto sc (v :: vs))) = (onto sc (v :: vs), (cutRows sc rows (onto sc (v :: vs))).filter (selKeeps (idx (onto sc (v :: vs)) v) value))
  congr 1
  by_cases hv : v ∈ sc
  · have hvo : v ∈ onto sc (v :: vs) := by rw [e1, List.mem_filter]; exact ⟨hv, by simp⟩
    refine Pl.Up.ext (cutRows_up _ _ _) (List.Pairwise.filter _ (cutRows_up _ _ _)) fun x => ?_
    rw [List.mem_filter, cut_look sc _ _ (fun t ht => h.2.1 t (memF ht)) ho, cut_look sc rows _ h.2.1 ho, Pl.mem_sortU, Pl.mem_sortU]
    have key : ∀ t, look (onto sc (v :: vs)) ((onto sc (v :: vs)).map (look sc t)) v = look sc t v := fun t => look_map hvo _
    constructor
    · intro hx
      obtain ⟨t, ht, rfl⟩ := List.mem_map.1 hx
      have ht0 := memF ht
      rw [List.mem_filter, selKeeps_in hv (h.2.1 t ht0)] at ht
      refine ⟨List.mem_map.2 ⟨t, ht.1, rfl⟩, ?_⟩
      rw [selKeeps_in hvo (by simp), key]
      exact ht.2
    · rintro ⟨hx, hk⟩
      obtain ⟨t, ht, rfl⟩ := List.mem_map.1 hx
      rw [selKeeps_in hvo (by simp), key] at hk
      exact List.mem_map.2 ⟨t, List.mem_filter.2 ⟨ht, by rw [selKeeps_in hv (h.2.1 t ht)]; exact hk⟩, rfl⟩
  · have hvo : ¬ v ∈ onto sc (v :: vs) := fun hh => hv (ho v hh)
    have e2 : rows.filter (selKeeps (idx sc v) value) = rows := List.filter_eq_self.2 fun t _ => selKeeps_out hv
    have e3 : (cutRows sc rows (onto sc (v :: vs))).filter (selKeeps (idx (onto sc (v :: vs)) v) value) = cutRows sc rows (onto sc (v :: vs)) := List.filter_eq_self.2 fun t _ => selKeeps_out hvo
    rw [e2]
    exact e3.symm

/-! ### RelTurned -/
theorem rise_perm {l m : List Int} (hl : l.Pairwise (· ≤ ·)) (hm : Rise m) (h : l.Perm m) : l = m :=
  h.eq_of_pairwise (le := (· ≤ ·)) (fun a b _ _ h1 h2 => by omega) hl (hm.imp fun {a b} (hab : a < b) => by omega)
theorem sortI_rise {l m : List Int} (hm : Rise m) (h : l.Perm m) : sortI l = m := rise_perm (sortI_up l) hm ((sortI_perm l).trans h)
theorem make_same {sc : List Int} {rows : List (List Int)} (h : RightP sc rows) : makeRel sc rows = (sc, rows) ∧ makeErr sc rows = 0 := by
  have e := sortI_rise h.1.1 (List.Perm.refl sc)
  have ok : okMake sc rows = true := by
    unfold okMake
    rw [e]
    exact decide_eq_true ⟨fun ⟨x, hx, hn⟩ => hn (h.2.1 x hx), h.1.1, h.1.2⟩
  rw [makeRel, makeErr, if_pos ok, if_pos ok, e, cut_self sc rows h.1.1.nodup h.2.1 h.2.2]
  exact ⟨rfl, rfl⟩
theorem make_turned {sc : List Int} {rows : List (List Int)} (h : RightP sc rows) (L : List (List Int)) (hL : ∀ x, x ∈ L ↔ ∃ t ∈ rows, x = t.reverse) : makeRel sc.reverse L = (sc, rows) ∧ makeErr sc.reverse L = 0 := by
  have e := sortI_rise h.1.1 (List.reverse_perm sc)
  have hLr : ∀ t ∈ L, t.length = sc.reverse.length := fun x hx => by
    obtain ⟨t, ht, rfl⟩ := (hL x).1 hx
    simp [h.2.1 t ht]
  have ok : okMake sc.reverse L = true := by
    unfold okMake
    rw [e, List.length_reverse]
    exact decide_eq_true ⟨fun ⟨x, hx, hn⟩ => hn (by rw [hLr x hx, List.length_reverse]), h.1.1, h.1.2⟩
  rw [makeRel, makeErr, if_pos ok, if_pos ok, e]
  refine ⟨?_, rfl⟩
  congr 1
  rw [cut_look sc.reverse L sc hLr (fun v hv => List.mem_reverse.2 hv)]
  conv => rhs; rw [← Pl.sortU_of_up h.2.2]
  have key : ∀ t ∈ rows, sc.map (look sc.reverse t.reverse) = t := fun t ht => by
    conv => rhs; rw [← look_self h.1.1.nodup (h.2.1 t ht)]
    refine List.map_congr_left fun v hv => ?_
    conv => lhs; rw [← look_self h.1.1.nodup (h.2.1 t ht), ← List.map_reverse]
    exact look_map (List.mem_reverse.2 hv) _
  refine Pl.sortU_congr fun x => ⟨fun hx => ?_, fun hx => ?_⟩
  · obtain ⟨y, hy, rfl⟩ := List.mem_map.1 hx
    obtain ⟨t, ht, rfl⟩ := (hL y).1 hy
    show List.map _ _ ∈ _
    rw [key t ht]; exact ht
  · exact List.mem_map.2 ⟨x.reverse, (hL _).2 ⟨x, hx, rfl⟩, key x hx⟩

/-! ### RelUnites -/
theorem unite_swap (x y z : List (List Int)) : Pl.sortU (Pl.sortU (x ++ y) ++ z) = Pl.sortU (Pl.sortU (z ++ y) ++ x) :=
  Pl.sortU_congr fun t => by
    simp only [List.mem_append, Pl.mem_sortU]
    constructor
    · rintro ((h | h) | h) <;> simp [h]
    · rintro ((h | h) | h) <;> simp [h]
theorem unite_has (x y z : List (List Int)) : ∀ t ∈ x, t ∈ Pl.sortU (Pl.sortU (x ++ y) ++ z) := fun t ht => by
  simp [Pl.mem_sortU, ht]

/-! ### RelSelects -/
/-- The values that rows have of a variable. -/
theorem vals_out {sc : List Int} {rows : List (List Int)} (h : RightP sc rows) {v : Int} (hv : ¬ v ∈ sc) : valsOf sc rows v = [] := by
  have e : onto sc [v] = [] := by
    rw [onto_eq sc [v] h.1.1]
    exact List.filter_eq_nil_iff.2 fun x hx => by simp; rintro rfl; exact hv hx
  have : ∀ x ∈ (projRel sc rows [v]).2, x = [] := fun x hx => by
    have := cut_row sc rows (onto sc [v]) h.2.1 (by rw [e]; simp) x hx
    rw [e] at this
    exact List.length_eq_zero_iff.1 this
  unfold valsOf
  exact List.flatten_eq_nil_iff.2 this
theorem onto_one {sc : List Int} (h : Rise sc) {v : Int} (hv : v ∈ sc) : onto sc [v] = [v] := by
  have hm : ∀ x, x ∈ onto sc [v] ↔ x = v := fun x => by
    rw [onto_eq sc [v] h, List.mem_filter]; simp; rintro rfl; exact hv
  have hr : Rise (onto sc [v]) := by rw [onto_eq sc [v] h]; exact h.filter _
  refine rise_perm (hr.imp fun {a b} (hab : a < b) => by omega) (List.pairwise_singleton _ _) ?_
  rw [List.perm_ext_iff_of_nodup hr.nodup (by simp)]
  intro a; rw [hm]; simp
theorem flatten_map_one (l : List Int) : (l.map fun x => [x]).flatten = l := by induction l with
  | nil => rfl
  | cons a l ih => simp [ih]
theorem vals_in {sc : List Int} {rows : List (List Int)} (h : RightP sc rows) {v : Int} (hv : v ∈ sc) : Rise (valsOf sc rows v) ∧ ∀ a, a ∈ valsOf sc rows v ↔ ∃ t ∈ rows, look sc t v = a := by
  have e : (projRel sc rows [v]).2 = Pl.sortU (rows.map fun t => [look sc t v]) := by
    show cutRows sc rows (onto sc [v]) = _
    rw [onto_one h.1.1 hv, cut_look sc rows [v] h.2.1 (by simpa using hv)]
    rfl
  have h1 : ∀ x ∈ (projRel sc rows [v]).2, ∃ a, x = [a] := fun x hx => by
    rw [e, Pl.mem_sortU] at hx
    obtain ⟨t, _, rfl⟩ := List.mem_map.1 hx
    exact ⟨_, rfl⟩
  have hup : Pl.Up (projRel sc rows [v]).2 := by rw [e]; exact Pl.sortU_up _
  have hmem : ∀ a, [a] ∈ (projRel sc rows [v]).2 ↔ ∃ t ∈ rows, look sc t v = a := fun a => by
    rw [e, Pl.mem_sortU, List.mem_map]; simp
  unfold valsOf
  generalize (projRel sc rows [v]).2 = R at *
  obtain ⟨l, rfl⟩ : ∃ l : List Int, R = l.map fun x => [x] := by
    clear hup hmem e
    induction R with
    | nil => exact ⟨[], rfl⟩
    | cons x R ih =>
      obtain ⟨a, rfl⟩ := h1 x List.mem_cons_self
      obtain ⟨l, rfl⟩ := ih fun y hy => h1 y (List.mem_cons_of_mem _ hy)
      exact ⟨a :: l, rfl⟩
  rw [flatten_map_one]
  refine ⟨?_, fun a => ?_⟩
  · have := List.pairwise_map.1 hup
    exact this.imp fun {a b} hab => by
      unfold Pl.lt at hab
      by_cases hlt : a < b
      · exact hlt
      · simp only [Pl.cmp, if_neg hlt] at hab
        by_cases h2 : b < a <;> simp [h2] at hab
  · rw [← hmem a]; simp
/-- Rows whose value is one of some. -/
def among (sc : List Int) (rows : List (List Int)) (v : Int) (l : List Int) : List (List Int) := rows.filter fun t => decide (look sc t v ∈ l)
theorem among_up {sc : List Int} {rows : List (List Int)} (h : Pl.Up rows) (v : Int) (l : List Int) : Pl.Up (among sc rows v l) := List.Pairwise.filter _ h
theorem sel_among {sc : List Int} {rows : List (List Int)} (h : RightP sc rows) {v : Int} (hv : v ∈ sc) (a : Int) : (selRel sc rows v a).2 = among sc rows v [a] := by
  refine List.filter_congr fun t ht => ?_
  rw [selKeeps_in hv (h.2.1 t ht)]; simp
theorem among_union {sc : List Int} {rows : List (List Int)} (h : RightP sc rows) {v : Int} (hv : v ∈ sc) (l : List Int) (a : Int) : Pl.sortU (among sc rows v l ++ (selRel sc rows v a).2) = among sc rows v (l ++ [a]) := by
  rw [sel_among h hv]
  refine (Pl.sortU_eq (among_up h.2.2 _ _) fun x => ?_).symm
  unfold among
  simp only [List.mem_append, List.mem_filter, decide_eq_true_eq, List.mem_singleton]
  constructor
  · rintro ⟨h1, h2 | h2⟩
    · exact .inl ⟨h1, h2⟩
    · exact .inr ⟨h1, h2⟩
  · rintro (⟨h1, h2⟩ | ⟨h1, h2⟩)
    · exact ⟨h1, .inl h2⟩
    · exact ⟨h1, .inr h2⟩
theorem filter_or_len {α : Type} (L : List α) (p q : α → Bool) (h : ∀ x ∈ L, ¬ (p x = true ∧ q x = true)) : (L.filter fun x => p x || q x).length = (L.filter p).length + (L.filter q).length := by
  induction L with
  | nil => rfl
  | cons x L ih =>
    have ih' := ih fun y hy => h y (List.mem_cons_of_mem _ hy)
    have hx := h x List.mem_cons_self
    cases hp : p x <;> cases hq : q x <;> simp_all [List.filter_cons] <;> omega
theorem among_len {sc : List Int} {rows : List (List Int)} (h : RightP sc rows) {v : Int} (hv : v ∈ sc) (l : List Int) (a : Int) (ha : ¬ a ∈ l) : (among sc rows v (l ++ [a])).length = (among sc rows v l).length + (selRel sc rows v a).2.length := by
  rw [sel_among h hv]
  unfold among
  rw [← filter_or_len]
  · congr 1
    exact List.filter_congr fun t _ => by simp
  · rintro t _ ⟨h1, h2⟩
    simp at h1 h2
    rw [h2] at h1
    exact ha h1
theorem sel_some {sc : List Int} {rows : List (List Int)} (h : RightP sc rows) {v : Int} (hv : v ∈ sc) (a : Int) (ha : a ∈ valsOf sc rows v) : 0 < (selRel sc rows v a).2.length := by
  obtain ⟨t, ht, e⟩ := ((vals_in h hv).2 a).1 ha
  rw [sel_among h hv]
  exact List.length_pos_of_mem (List.mem_filter.2 ⟨ht, by simp [e]⟩)
theorem among_all {sc : List Int} {rows : List (List Int)} (h : RightP sc rows) {v : Int} (hv : v ∈ sc) : among sc rows v (valsOf sc rows v) = rows :=
  List.filter_eq_self.2 fun t ht => by
    rw [decide_eq_true_eq, (vals_in h hv).2]; exact ⟨t, ht, rfl⟩
theorem sel_out (sc : List Int) (rows : List (List Int)) {v : Int} (hv : ¬ v ∈ sc) (a : Int) : selRel sc rows v a = (sc, rows) := by
  unfold selRel
  rw [List.filter_eq_self.2 fun t _ => selKeeps_out hv]
end Go.Proofs.Ytlinhcgggfdlpaa.G
