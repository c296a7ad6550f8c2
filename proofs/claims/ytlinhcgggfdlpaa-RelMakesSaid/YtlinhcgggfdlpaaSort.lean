/- slices.SortFunc at rows of rows, by tuple.Compare. -/
import Derived.Test.YtlinhcgggfdlpaaCompact
import Derived.Test.YtlinhcgggfdlpaaShelf
set_option linter.unusedVariables false
set_option linter.unusedSimpArgs false
namespace Go.Proofs.Ytlinhcgggfdlpaa.G
open Go.RowKit Go.Proofs.YtlinhcgggfdlpaaW.PrintWords Go.Proofs.YtlinhcgggfdlpaaW.PrintLast Go.Proofs.YtlinhcgggfdlpaaW.PrintMore

/-- A row that leads elsewhere than into block g. -/
def RowOf (w : World) (B g : Nat) : Type := { p : Value × List Int // Kd.FK KL w (fun k => B ≤ k ∧ k ≠ g) p.2 [p.1] }
def RowOf.enc {w : World} {B g : Nat} (x : RowOf w B g) : Value := x.1.1
def RowOf.of {w : World} {B g : Nat} (v : Value) (l : List Int) (h : Kd.FK KL w (fun k => B ≤ k ∧ k ≠ g) l [v]) : RowOf w B g := ⟨(v, l), h⟩
def RowOf.l {w : World} {B g : Nat} (x : RowOf w B g) : List Int := x.1.2
theorem FK_nil (w : World) (ok : Nat → Prop) : Kd.FK KL w ok [] [.slice none 0 0] := fun _ _ => ⟨none, 0, rfl, Nat.le_refl _, rfl, by simp, fun h => absurd h (by simp)⟩
instance (w : World) (B g : Nat) : Inhabited (RowOf w B g) := ⟨⟨(.slice none 0 0, []), FK_nil _ _⟩⟩
theorem RowOf.one (w : World) (B g : Nat) : OneCell (RowOf.enc (w := w) (B := B) (g := g)) := fun x => by
  obtain ⟨A, c, e, _⟩ := FK_open x.2
  unfold RowOf.enc
  rw [e]; rfl
def cmpR {w : World} {B g : Nat} (x y : RowOf w B g) : Int := Pl.cmp x.l y.l
theorem ltR {w : World} {B g : Nat} (x y : RowOf w B g) : ltOf cmpR x y = decide (Pl.lt x.l y.l) := by
  unfold ltOf cmpR
  rw [decide_eq_decide, Pl.cmp_neg]
theorem swoR (w : World) (B g : Nat) : Go.Sort.SWO (ltOf (cmpR (w := w) (B := B) (g := g))) where
  irrefl x := by rw [ltR]; exact decide_eq_false (Pl.lt_irrefl _)
  trans x y z h1 h2 := by
    rw [ltR] at *
    exact decide_eq_true (Pl.lt_trans (of_decide_eq_true h1) (of_decide_eq_true h2))
  ntrans x y z h1 h2 := by
    rw [ltR] at *
    have h1 := of_decide_eq_false h1
    have h2 := of_decide_eq_false h2
    refine decide_eq_false fun h => ?_
    rcases Pl.lt_total x.l y.l with e | e | e
    · exact h1 e
    · rw [e] at h; exact h2 h
    · exact h2 (Pl.lt_trans e h)

/-- What the sort leaves of the world. -/
theorem sortWorld_keep {α : Type} [Inhabited α] (enc : α → Value) (w : World) (g m : Nat) (d : Array α) (os : Array Obj) (k : Nat) (hk : k ≠ g) (hl : k < w.heap.size) : (sortWorld enc w g 0 m d os).heap[k]? = w.heap[k]? := by
  unfold sortWorld
  rw [Go.Sort.heap_grow_old _ _ (by simpa [Go.Sort.putRow, Go.Sort.mapBlock] using hl)]
  simp only [Go.Sort.putRow, Go.Sort.mapBlock, Go.Sort.heap_ahead, Array.getElem?_modify]
  rw [if_neg (Ne.symm hk)]
theorem sortWorld_blk {α : Type} [Inhabited α] (enc : α → Value) (w : World) (g m e : Nat) (cur : Array Value) (d : Array α) (os : Array Obj) (h : w.heap[g]? = some (.cells cur e (0, 0))) : (sortWorld enc w g 0 m d os).heap[g]? = some (.cells (Go.Sort.putCells enc 0 d cur) e (0, 0)) := by
  have hl : g < w.heap.size := (Array.getElem?_eq_some_iff.1 h).1
  unfold sortWorld
  rw [Go.Sort.heap_grow_old _ _ (by simpa [Go.Sort.putRow, Go.Sort.mapBlock] using hl)]
  simp only [Go.Sort.putRow, Go.Sort.mapBlock, Go.Sort.heap_ahead, Array.getElem?_modify, if_true, h]
  rfl
theorem sortWorld_size {α : Type} [Inhabited α] (enc : α → Value) (w : World) (g m : Nat) (d : Array α) (os : Array Obj) : w.heap.size ≤ (sortWorld enc w g 0 m d os).heap.size := by
  simp [sortWorld, Go.Sort.putRow, Go.Sort.mapBlock]

set_option maxHeartbeats 1000000 in
/-- slices.SortFunc by tuple.Compare: the same rows, none behind one that is less. -/
theorem sort_any (B g c : Nat) (cur : Array Value) (xs : List (List Int)) (w : World) (hR : RowsAt w B g cur xs) (hl : cur.size = xs.length) (hm : xs.length ≤ 1000000000) :
    Calls Try.prog 66 #[.slice (some ⟨g, 0, none⟩) xs.length c, .func (.func 43) #[] #[]] w fun e w' =>
      e = .returned (.tuple #[]) ∧ ∃ cur' ys, RowsAt w' B g cur' ys ∧ cur'.size = cur.size ∧ KeepBut w w' g none ∧ Below g w w' ∧ ys.Perm xs ∧ ys.Pairwise fun a b => ¬ Pl.lt b a := by
  let d : Array (RowOf w B g) := Array.ofFn fun i : Fin xs.length => RowOf.of cur[i.1]! xs[i.1] (hR.row i.1 i.2)
  have hd : d.size = xs.length := by simp [d]
  have hdj : ∀ j (h : j < xs.length), (d[j]!).1 = (cur[j]!, xs[j]) := fun j h => by
    have : d[j]! = d[j]'(by rw [hd]; exact h) := getElem!_pos d j (by rw [hd]; exact h)
    rw [this]; simp only [d, Array.getElem_ofFn]; rfl
  have eg := enters_of Try.func43 (by kernel_rfl) rfl
  have hg : g < w.heap.size := (Array.getElem?_eq_some_iff.1 hR.blk).1
  have hcmp : CmpLays1 Try.prog 43 #[] RowOf.enc (cmpR (w := w) (B := B) (g := g)) g 0 d.size w := by
    intro m os dk _ x y
    have hx := Kd.FK_step x.2 (W1 := sortWorld RowOf.enc w g 0 m dk os) (fun k hk hlt => sortWorld_keep _ w g m dk os k hk.2 hlt)
    have hy := Kd.FK_step y.2 (W1 := sortWorld RowOf.enc w g 0 m dk os) (fun k hk hlt => sortWorld_keep _ w g m dk os k hk.2 hlt)
    obtain ⟨A, cc, ex, _, hcx⟩ := FK_open hx
    obtain ⟨A', cc', ey, _, hcy⟩ := FK_open hy
    have ex' : x.enc = .slice A x.l.length cc := ex
    have ey' : y.enc = .slice A' y.l.length cc' := ey
    rw [ex', ey']
    exact (tuple_Compare_any A cc x.l A' cc' y.l _ hcx hcy).mono fun e w' h => ⟨h.1, by
      obtain ⟨n, hn⟩ := h.2.out
      exact ⟨n, #[], by rw [hn, Go.Sort.grow_empty]⟩⟩
  have hH : Go.Sort.Holds RowOf.enc w g 0 d := fun j hj => by
    rw [hd] at hj
    rw [Nat.zero_add]
    refine ⟨?_, hR.frozen j⟩
    rw [hR.cell j (by omega)]
    unfold RowOf.enc
    rw [hdj j hj]
  have h := Try.slices_SortFunc RowOf.enc (RowOf.one w B g) cmpR (swoR w B g) 43 #[] g 0 c d w eg hcmp hH hg (by rw [hd]; omega)
  rw [hd] at h
  refine h.mono fun e w' ⟨he, d', n, os, hp, hs, hw⟩ => ⟨he, Go.Sort.putCells RowOf.enc 0 d' cur, d'.toList.map RowOf.l, ?_, ?_, ?_, ?_, ?_, ?_⟩
  · subst hw
    have hd' : d'.size = xs.length := by rw [hp.1, hd]
    refine ⟨sortWorld_blk _ w g n _ cur d' os hR.blk, by simp [Go.Sort.putCells, hd', hl], fun j hj => ?_⟩
    have hj' : j < d'.size := by simpa using hj
    have hc : (Go.Sort.putCells RowOf.enc 0 d' cur)[j]! = (d'[j]).enc := by
      simp [Go.Sort.putCells, getElem!_def, Array.getElem?_mapIdx, hj', show j < cur.size by omega]
    rw [hc]
    simp only [List.getElem_map, Array.getElem_toList]
    exact Kd.FK_step (d'[j]).2 (fun k hk hlt => sortWorld_keep _ w g n d' os k hk.2 hlt)
  · simp [Go.Sort.putCells]
  · subst hw
    exact ⟨sortWorld_size _ _ _ _ _ _, fun i hi hig _ => sortWorld_keep _ w g n d' os i hig hi⟩
  · subst hw
    exact ⟨rfl, rfl, rfl, sortWorld_size _ _ _ _ _ _, fun i hi => sortWorld_keep _ w g n d' os i (by omega) (by omega)⟩
  · have hperm := hp.2.2
    have hd' : d'.size = xs.length := by rw [hp.1, hd]
    have e1 : d'.extract 0 xs.length = d' := by rw [← hd']; simp
    have e2 : d.extract 0 xs.length = d := by rw [← hd]; simp
    rw [e1, e2] at hperm
    have h2 := hperm.map RowOf.l
    have e3 : d.toList.map RowOf.l = xs := by
      apply List.ext_getElem
      · simp [hd]
      · intro i h1 h2
        simp only [d, List.getElem_map, Array.getElem_toList, Array.getElem_ofFn]; rfl
    rwa [e3] at h2
  · have hd' : d'.size = xs.length := by rw [hp.1, hd]
    rw [List.pairwise_map, List.pairwise_iff_getElem]
    intro i j hi hj hij
    have h3 := hs i j (Nat.zero_le _) hij (by simp at hj; omega)
    rw [ltR] at h3
    have h4 := of_decide_eq_false h3
    simp only [Array.length_toList] at hi hj
    rw [getElem!_pos d' i hi, getElem!_pos d' j hj] at h4
    simpa using h4
end Go.Proofs.Ytlinhcgggfdlpaa.G
