/- A map from texts to rows of rows that a call has made and fills by append: the map as a function to slice values, and what each slice holds. -/
import Derived.Test.YtnmonjincnlhiaaDoorMA
import Derived.Maps.Own
import Derived.Maps.Views
set_option linter.unusedVariables false
set_option linter.unusedSimpArgs false
namespace Go.Proofs.YtnmonjincnlhiaaDoor.G
open Go.RowKit Go.Proofs.YtnmonjincnlhiaaDoorW.PrintWords Go.Proofs.YtnmonjincnlhiaaDoorW.PrintLast Go.Proofs.YtnmonjincnlhiaaDoorW.PrintMore

/-- An element read as itself. -/
def heldV (v : Value) : Option (DataW Value × List MemPlace) := some (.held v, [])
def nilV : Value := .slice none 0 0
/-- Block b is a map from texts that gives f. -/
def MapV (P : Program) (k : TypeId) (W : World) (b : Nat) (f : List UInt8 → Value) (m : Nat) : Prop :=
  ∃ D : DataW Value, W.ownsMap P k heldV b m D ∧ Go.Maps.IsMap D ∧ ∀ s, D.atKey (.string s) (.held nilV) = .held (f s)
section
variable {P : Program} {k t e : TypeId} {W W1 : World} {b m : Nat} {f : List UInt8 → Value}
theorem MapV.made (P : Program) (k : TypeId) (W : World) : MapV P k (W.alloc (.map #[] 0)) W.heap.size (fun _ => nilV) 0 :=
  ⟨.map [], World.ownsMap_made W P k heldV, Go.Maps.isMap_empty, fun s => rfl⟩
theorem MapV.kept (h : MapV P k W b f m) {row : Option Nat} (hg : W.grownBy W1 row) (hne : some b ≠ row) : MapV P k W1 b f m := by
  obtain ⟨D, h1, h2, h3⟩ := h
  exact ⟨D, h1.kept hg hne, h2, h3⟩
theorem MapV.lt (h : MapV P k W b f m) : b < W.heap.size := by
  obtain ⟨D, h1, _⟩ := h
  exact h1.lt
theorem MapV.lookup (h : MapV P k W b f m) (hk : P.underlying k = some .string) (ht : P.underlying t = some (.map k e)) (hz : (zeroValue e).run P W = .ok nilV W) (s : ByteArray) (hs : s.size ≤ maxLen) :
    (Instr.lookup t (.map (some b)) (.string s) false).run P W = .ok (f s.data.toList) W := by
  obtain ⟨D, h1, _, h3⟩ := h
  obtain ⟨v, ps, hrun, hv⟩ := h1.lookup (Go.Maps.string_keyed hk) ht hz (show heldV nilV = some (.held nilV, []) from rfl) (Go.WideMaps.keyOf_string_mk hk hs)
  rw [h3] at hv
  have : v = f s.data.toList := by
    have h4 := congrArg Prod.fst (Option.some.inj hv)
    exact DataW.held.inj h4
  rw [hrun, this]
theorem MapV.update (h : MapV P k W b f m) (hk : P.underlying k = some .string) (ht : P.underlying t = some (.map k e)) (hm : m < maxLen) (s : ByteArray) (hs : s.size ≤ maxLen) (v : Value) :
    ∃ W', (Instr.mapUpdate t (.map (some b)) (.string s) v).run P W = .ok () W' ∧ MapV P k W' b (fun q => if q = s.data.toList then v else f q) (m + 1) ∧ W.grownBy W' (some b) := by
  obtain ⟨D, h1, h2, h3⟩ := h
  obtain ⟨W', hrun, h4, hg⟩ := h1.update (Go.Maps.string_keyed hk) ht hm (Go.WideMaps.keyOf_string_mk hk hs) (show heldV v = some (.held v, []) from rfl)
  refine ⟨W', hrun, ⟨_, h4, ?_, fun q => ?_⟩, hg⟩
  · obtain ⟨es, rfl⟩ := h2
    exact ⟨_, rfl⟩
  · by_cases hq : q = s.data.toList
    · subst hq
      show _ = DataW.held (if s.data.toList = s.data.toList then v else f s.data.toList)
      rw [if_pos rfl, Go.Maps.atKey_put_same h2 (show Go.WideAt.IsKeyLit (.string s.data.toList) from trivial)]
    · show _ = DataW.held (if q = s.data.toList then v else f q)
      rw [if_neg hq, Go.Maps.atKey_put_other (fun e => hq (by injection e)), h3]
end

/-- What each text's slice holds: rows that lie in blocks of 'ok', all ahead of the map; the slices' own blocks from 'base' on, each in a family of its own. -/
def Groups (P : Program) (k : TypeId) (W : World) (b base m : Nat) (ok : Nat → Prop) (G : List UInt8 → List (List Int)) : Prop :=
  ∃ (f : List UInt8 → Value) (fam : List UInt8 → Nat → Prop), MapV P k W b f m ∧ b < base ∧ (base ≤ W.heap.size ∧ ∀ q, ok q → q < b) ∧
    (∀ s, Kd.N KL 22 W base (fun q => ok q ∨ fam s q) (f s) (G s)) ∧ (∀ s q, fam s q → base ≤ q ∧ q < W.heap.size) ∧ ∀ s s' q, s ≠ s' → fam s q → ¬ fam s' q
section
variable {P : Program} {k t e : TypeId} {W W1 : World} {b base m : Nat} {ok : Nat → Prop} {G : List UInt8 → List (List Int)}
theorem Groups.made (P : Program) (k : TypeId) (W : World) (ok : Nat → Prop) (hok : ∀ q, ok q → q < W.heap.size) : Groups P k (W.alloc (.map #[] 0)) W.heap.size (W.heap.size + 1) 0 ok (fun _ => []) :=
  ⟨fun _ => nilV, fun _ _ => False, MapV.made P k W, Nat.lt_succ_self _, ⟨by rw [World.size_alloc]; exact Nat.le_refl _, hok⟩, fun s => Kd.N_nil _ _ _ _ _, fun s q h => h.elim, fun s s' q _ h => h.elim⟩
/-- Over whatever leaves all that there is. -/
theorem Groups.below (h : Groups P k W b base m ok G) (hb : Below W.heap.size W W1) (hg : W.grownBy W1 none) : Groups P k W1 b base m ok G := by
  obtain ⟨f, fam, h1, h2, h3, h4, h5, h6⟩ := h
  exact ⟨f, fam, h1.kept hg (by simp), h2, ⟨Nat.le_trans h3.1 hb.size, h3.2⟩, fun s => Kd.N_below (h4 s) hb, fun s q hq => ⟨(h5 s q hq).1, Nat.lt_of_lt_of_le (h5 s q hq).2 hb.size⟩, h6⟩
/-- The look-up: a slice that holds the text's rows. -/
theorem Groups.lookup (h : Groups P k W b base m ok G) (hk : P.underlying k = some .string) (ht : P.underlying t = some (.map k e)) (hz : (zeroValue e).run P W = .ok nilV W) (s : ByteArray) (hs : s.size ≤ maxLen) :
    ∃ A c, (Instr.lookup t (.map (some b)) (.string s) false).run P W = .ok (.slice A (G s.data.toList).length c) W ∧ (G s.data.toList).length ≤ c ∧ Kd.C KL W A (G s.data.toList).length (G s.data.toList) := by
  obtain ⟨f, fam, h1, h2, h3, h4, h5, h6⟩ := h
  obtain ⟨A, c, e, hl, hC⟩ := Kd.N_reads (h4 s.data.toList)
  exact ⟨A, c, by rw [h1.lookup hk ht hz s hs, e], hl, hC⟩
/-- The look-up in a loop that fills the map: the slice, and the way back: whatever an append leaves of it may be stored. -/
theorem Groups.way (h : Groups P k W b base m ok G) (hk : P.underlying k = some .string) (ht : P.underlying t = some (.map k e)) (hz : (zeroValue e).run P W = .ok nilV W) (s : ByteArray) (hs : s.size ≤ maxLen) (hm : m < maxLen) :
    ∃ (v : Value) (fs : Nat → Prop), (Instr.lookup t (.map (some b)) (.string s) false).run P W = .ok v W ∧ (∀ q, fs q → base ≤ q ∧ q < W.heap.size) ∧ Kd.N KL 22 W base (fun q => ok q ∨ fs q) v (G s.data.toList) ∧
      ∀ (v1 : Value) (W1 : World) (xs : List (List Int)), W.grownBy W1 v.ownBlock → Kd.N KL 22 W1 base (fun q => ok q ∨ (fs q ∨ W.heap.size ≤ q)) v1 xs → W.heap.size ≤ W1.heap.size →
        ∃ W2, (Instr.mapUpdate t (.map (some b)) (.string s) v1).run P W1 = .ok () W2 ∧ Groups P k W2 b base (m + 1) ok (fun q => if q = s.data.toList then xs else G q) ∧ W1.grownBy W2 (some b) := by
  obtain ⟨f, fam, h1, h2, h3, h4, h5, h6⟩ := h
  refine ⟨f s.data.toList, fam s.data.toList, h1.lookup hk ht hz s hs, h5 _, h4 _, fun v1 W1 xs hg hN hsz => ?_⟩
  have hbo : some b ≠ (f s.data.toList).ownBlock := fun e => by
    have := Kd.N_base (h4 s.data.toList) b e.symm
    omega
  have hM1 := h1.kept hg hbo
  obtain ⟨W2, hrun, hM2, hg2⟩ := hM1.update hk ht hm s hs v1
  have hs2 : W1.heap.size ≤ W2.heap.size := hg2.size
  -- another text's slice stands as it did
  have hother : ∀ q, q ≠ s.data.toList → Kd.N KL 22 W1 base (fun j => ok j ∨ fam q j) (f q) (G q) := fun q hq =>
    Kd.N_grown (h4 q) hg fun j hj e => by
      have hb1 := Kd.N_base (h4 s.data.toList) j e.symm
      rcases hj with hj | hj
      · have := h3.2 j hj; omega
      · rcases (h4 s.data.toList).1 j e.symm with hj' | hj'
        · have := h3.2 j hj'; omega
        · exact h6 q s.data.toList j hq hj hj'
  refine ⟨W2, hrun, ⟨fun q => if q = s.data.toList then v1 else f q, fun q j => if q = s.data.toList then (fam q j ∨ W.heap.size ≤ j) ∧ j < W1.heap.size else fam q j, hM2, h2, ⟨by have := h3.1; omega, h3.2⟩, fun q => ?_, fun q j hj => ?_, fun q q' j hne hj hj' => ?_⟩, hg2⟩
  · by_cases hq : q = s.data.toList
    · subst hq
      simp only [if_true]
      have h7 := Kd.N_grown (Kd.N_bound hN) hg2 (fun j hj e => by
        have e' := Option.some.inj e
        rcases hj.1 with h8 | h8 | h8
        · have := h3.2 j h8; omega
        · have := (h5 _ j h8).1; omega
        · have := h1.lt; omega)
      exact Kd.N_mono h7 fun j hj => hj.1.elim .inl fun h8 => .inr ⟨h8, hj.2⟩
    · simp only [if_neg hq]
      exact Kd.N_grown (hother q hq) hg2 fun j hj e => by
        have e' := Option.some.inj e
        rcases hj with h8 | h8
        · have := h3.2 j h8; omega
        · have := (h5 q j h8).1; omega
  · by_cases hq : q = s.data.toList
    · simp only [if_pos hq] at hj
      rcases hj.1 with h8 | h8
      · exact ⟨(h5 q j h8).1, by omega⟩
      · exact ⟨by have := h3.1; omega, by omega⟩
    · simp only [if_neg hq] at hj
      have := h5 q j hj
      exact ⟨this.1, by omega⟩
  · by_cases hq : q = s.data.toList
    · have hq' : ¬ q' = s.data.toList := fun e => hne (hq.trans e.symm)
      simp only [if_pos hq] at hj
      simp only [if_neg hq'] at hj'
      rcases hj.1 with h8 | h8
      · exact h6 q q' j hne h8 hj'
      · have := (h5 q' j hj').2; omega
    · simp only [if_neg hq] at hj
      by_cases hq' : q' = s.data.toList
      · simp only [if_pos hq'] at hj'
        rcases hj'.1 with h8 | h8
        · exact h6 q q' j hne hj h8
        · have := (h5 q j hj).2; omega
      · simp only [if_neg hq'] at hj'
        exact h6 q q' j hne hj hj'
theorem Groups.lt2 (h : Groups P k W b base m ok G) : b < base := by
  obtain ⟨f, fam, h1, h2, h3, _⟩ := h
  exact h2
theorem Groups.lt3 (h : Groups P k W b base m ok G) : b < W.heap.size := by
  obtain ⟨f, fam, h1, h2, h3, _⟩ := h
  exact h1.lt
/-- A store into a block ahead of the slices that holds none of it. -/
theorem Groups.set (h : Groups P k W b base m ok G) {g : Nat} (hg : g < base) (hb : g ≠ b) (hok : ¬ ok g) (i : Nat) (u : Value) : Groups P k (W.setCell ⟨g, i, none⟩ u) b base m ok G := by
  obtain ⟨f, fam, h1, h2, h3, h4, h5, h6⟩ := h
  refine ⟨f, fam, h1.kept (row := some g) ⟨rfl, rfl, rfl, by simp [World.setCell], fun k hk hne => Below.heap_setCell _ _ _ _ (fun e => hne (by rw [e]))⟩ (fun e => hb (Option.some.inj e).symm), h2, ⟨by simpa [World.setCell] using h3.1, h3.2⟩, fun s => Kd.N_far (h4 s) (p := ⟨g, i, none⟩) (fun q hq => ?_) u, fun s q hq => by simpa [World.setCell] using h5 s q hq, h6⟩
  rintro rfl
  rcases hq with hq | hq
  · exact hok hq
  · have := (h5 s q hq).1; omega
end
end Go.Proofs.YtnmonjincnlhiaaDoor.G
