/- Several texts of this claim in one. -/
import Derived.Test.YtpimooejnpdlpaaGreatDoorMJ
/- The order that place.After tells, of a tree: all bags, each behind its children. -/
set_option linter.unusedVariables false
set_option linter.unusedSimpArgs false
namespace Go.Proofs.YtpimooejnpdlpaaGreatDoor.G
open Go.RowKit Go.Proofs.YtpimooejnpdlpaaGreatDoorW.PrintWords Go.Proofs.YtpimooejnpdlpaaGreatDoorW.PrintLast Go.Proofs.YtpimooejnpdlpaaGreatDoorW.PrintMore Go.Proofs.YtpimooejnpdlpaaGreatDoor.PRefs

def ofN (l : List Nat) : List Int := l.map fun (k : Nat) => (k : Int)
theorem ofN_append (l m : List Nat) : ofN (l ++ m) = ofN l ++ ofN m := List.map_append
theorem ofN_rd (l : List Nat) (k : Nat) (h : k < l.length) : rd (ofN l) (k : Int) = (l[k] : Int) := by
  rw [rd_get _ _ (by simpa [ofN] using h)]; simp [ofN]
theorem ofN_len (l : List Nat) : (ofN l).length = l.length := by simp [ofN]
theorem ofN_reverse (l : List Nat) : ofN l.reverse = (ofN l).reverse := by simp [ofN]
def parOf (P : List Int) (i : Nat) : Option Nat := if i < P.length ∧ 0 ≤ rd P (i : Int) then some (rd P (i : Int)).toNat else none
theorem parOf_some {P : List Int} {i p : Nat} (h : parOf P i = some p) : i < P.length ∧ rd P (i : Int) = (p : Int) := by
  unfold parOf at h
  split at h
  · next h' => exact ⟨h'.1, by have := Option.some.inj h; omega⟩
  · cases h
theorem parOf_of {P : List Int} {i : Nat} (h : i < P.length) (h0 : 0 ≤ rd P (i : Int)) : parOf P i = some (rd P (i : Int)).toNat := if_pos ⟨h, h0⟩
theorem parOf_none {P : List Int} {i : Nat} (h : i < P.length) (h0 : ¬ 0 ≤ rd P (i : Int)) : parOf P i = none := if_neg fun h' => h0 h'.2
def kidsN (P : List Int) (i : Nat) : List Nat := (List.range P.length).filter fun (k : Nat) => decide (rd P (k : Int) = (i : Int))
theorem kidsN_is (P : List Int) (i : Nat) : (kidsN P i).Nodup ∧ ∀ c, c ∈ kidsN P i ↔ parOf P c = some i := by
  refine ⟨List.Pairwise.filter _ List.nodup_range, fun c => ?_⟩
  unfold kidsN
  rw [List.mem_filter, List.mem_range, decide_eq_true_eq]
  constructor
  · rintro ⟨h1, h2⟩
    rw [parOf_of h1 (by omega), h2, Int.toNat_natCast]
  · intro h
    exact parOf_some h
theorem kidsI_of (P : List Int) (i : Nat) : kidsI P (i : Int) = ofN (kidsN P i) := by
  unfold kidsI kidsTo kidsN ofN
  congr 1
  refine List.filter_congr fun k _ => ?_
  rw [decide_eq_decide]
  exact ⟨fun h => h.1, fun h => ⟨h, by omega⟩⟩
theorem dfsI_of (P : List Int) : ∀ f (s out : List Nat), dfsI P f (ofN s.reverse) (ofN out) = ofN (dfsG (kidsN P) f s out)
  | 0, s, out => by rw [dfsI, dfsG]
  | f + 1, [], out => by rw [List.reverse_nil]; exact dfsI_nil P _ _
  | f + 1, i :: s, out => by
    rw [List.reverse_cons, ofN_append, show ofN [i] = [(i : Int)] from rfl, dfsI_snoc, if_neg (by omega), kidsI_of, ← ofN_append, show ofN out ++ [(i : Int)] = ofN (out ++ [i]) by rw [ofN_append]; rfl, dfsG]
    have := dfsI_of P f ((kidsN P i).reverse ++ s) (out ++ [i])
    rwa [List.reverse_append, List.reverse_reverse] at this

/-- Parents that lead to one root. -/
structure TreeOK (P : List Int) (dep : Nat → Nat) (root : Nat) : Prop where
  tree : TreeOf P.length (parOf P) dep
  rooted : 0 < P.length → root < P.length ∧ idx P (-1) = (root : Int) ∧ rd P (root : Int) = -1
  one : ∀ i, i < P.length → parOf P i = none → i = root
def afterN (P : List Int) : List Nat := if P.length = 0 then [] else (dfsG (kidsN P) (P.length + 1) [(idx P (-1)).toNat] []).reverse
theorem after_is {P : List Int} {dep : Nat → Nat} {root : Nat} (h : TreeOK P dep root) : afterI P = ofN (afterN P) ∧ Behind P.length (parOf P) (afterN P) := by
  unfold afterN
  by_cases h0 : P.length = 0
  · have hn := List.eq_nil_of_length_eq_zero h0
    subst hn
    exact ⟨rfl, ⟨List.Pairwise.nil, by simp, List.Pairwise.nil⟩⟩
  · obtain ⟨h1, h2, h3⟩ := h.rooted (by omega)
    rw [if_neg h0]
    unfold afterI
    rw [h2, Int.toNat_natCast]
    refine ⟨?_, ?_⟩
    · rw [ofN_reverse, ← dfsI_of]; rfl
    · exact dfs_behind h.tree (parOf_none h1 (by omega)) h.one (kidsN P) (kidsN_is P) _ _ _ (dfs_start h1) (by simp)
theorem behind_len {n : Nat} {par : Nat → Option Nat} {ord : List Nat} (h : Behind n par ord) : ord.length ≤ n := nodup_low h.nodup fun x hx => (h.mem x).1 hx
theorem take_snoc (l : List Nat) (k : Nat) (h : k < l.length) : l.take (k + 1) = l.take k ++ [l[k]] := List.take_succ_eq_append_getElem h
theorem upL_some {par : Nat → Option Nat} {m : List Nat} {l : List S39} {i p : Nat} (h : par i = some p) : upL par (m ++ [i]) l = semiAt (upL par m l) p i := by simp [upL, List.foldl_append, h]
theorem upL_none {par : Nat → Option Nat} {m : List Nat} {l : List S39} {i : Nat} (h : par i = none) : upL par (m ++ [i]) l = upL par m l := by simp [upL, List.foldl_append, h]
theorem downL_some {par : Nat → Option Nat} {m : List Nat} {l : List S39} {i p : Nat} (h : par i = some p) : downL par (m ++ [i]) l = semiAt (downL par m l) i p := by simp [downL, List.foldl_append, h]
theorem downL_none {par : Nat → Option Nat} {m : List Nat} {l : List S39} {i : Nat} (h : par i = none) : downL par (m ++ [i]) l = downL par m l := by simp [downL, List.foldl_append, h]
theorem rt_sub {sc : List Int} {L M : List (List Int)} (h : Rt sc L) (hs : M.Sublist L) : Rt sc M := ⟨rightP_sub h.r hs, h.s, Nat.le_trans hs.length_le h.l, fun t ht => h.i t (hs.subset ht)⟩
def RtL (l : List S39) : Prop := ∀ k, k < l.length → Rt (sch l k) (fam l k)
theorem RtL.right {l : List S39} (h : RtL l) : RightL l := fun k hk => (h k hk).r
theorem RtL.up {l : List S39} (h : RtL l) {par : Nat → Option Nat} {dep : Nat → Nat} (hT : TreeOf l.length par dep) (ord : List Nat) : RtL (upL par ord l) := fun k hk => by
  obtain ⟨h1, h2, h3⟩ := upL_is' hT ord
  rw [h2, h3]
  exact rt_sub (h k (by rw [← h1]; exact hk)) (upF_sub _ _ _ _ k)
theorem RtL.down {l : List S39} (h : RtL l) {par : Nat → Option Nat} {dep : Nat → Nat} (hT : TreeOf l.length par dep) (ord : List Nat) : RtL (downL par ord l) := fun k hk => by
  obtain ⟨h1, h2, h3⟩ := downL_is' hT ord
  rw [h2, h3]
  exact rt_sub (h k (by rw [← h1]; exact hk)) (downF_sub _ _ _ _ k)
theorem RelsAt.far {W : World} {g n : Nat} {cur : Array Value} {l : List S39} (h : RelsAt W g cur n l) {p : Addr} (hp : p.block < g) (u : Value) : RelsAt (W.setCell p u) g cur n l :=
  ⟨(Below.heap_setCell _ _ _ _ (by omega)).trans h.blk, h.size, h.len, fun j hj => (h.rel j hj).far (by omega) u⟩
end Go.Proofs.YtpimooejnpdlpaaGreatDoor.G

/- pass.Up, pass.Down: what they answer. -/
set_option linter.unusedVariables false
set_option linter.unusedSimpArgs false
namespace Go.Proofs.YtpimooejnpdlpaaGreatDoor.G
open Go.RowKit Go.Proofs.YtpimooejnpdlpaaGreatDoorW.PrintWords Go.Proofs.YtpimooejnpdlpaaGreatDoorW.PrintLast Go.Proofs.YtpimooejnpdlpaaGreatDoorW.PrintMore Go.Proofs.YtpimooejnpdlpaaGreatDoor.PRefs

/-- Relations that may be handed on: right, and of no great size. -/
structure FitL (l : List S39) : Prop where
  len : l.length ≤ 1000
  rt : RtL l
  s : ∀ k, k < l.length → (sch l k).length ≤ 1000
theorem FitL.mem {l : List S39} (h : FitL l) : ∀ r ∈ l, r.f1.length ≤ 1000000 ∧ r.f0.length ≤ 1000000 ∧ ∀ t ∈ r.f1, t.length ≤ 1000000 := fun r hr => by
  obtain ⟨k, hk, e⟩ := mem_relAt hr
  have h1 := h.rt k hk
  have h2 := h.s k hk
  unfold sch fam at h1
  unfold sch at h2
  rw [e] at h1 h2
  exact ⟨by have := h1.l; omega, by omega, fun t ht => by rw [h1.r.2.1 t ht]; omega⟩
theorem FitL.up {l : List S39} (h : FitL l) {par : Nat → Option Nat} {dep : Nat → Nat} (hT : TreeOf l.length par dep) (ord : List Nat) : FitL (upL par ord l) := by
  obtain ⟨h1, h2, h3⟩ := upL_is' hT ord
  exact ⟨by rw [h1]; exact h.len, h.rt.up hT ord, fun k hk => by rw [h2]; exact h.s k (by rw [← h1]; exact hk)⟩
theorem FitL.down {l : List S39} (h : FitL l) {par : Nat → Option Nat} {dep : Nat → Nat} (hT : TreeOf l.length par dep) (ord : List Nat) : FitL (downL par ord l) := by
  obtain ⟨h1, h2, h3⟩ := downL_is' hT ord
  exact ⟨by rw [h1]; exact h.len, h.rt.down hT ord, fun k hk => by rw [h2]; exact h.s k (by rw [← h1]; exact hk)⟩
/-- What Up, and Down, hold between two edges. -/
def PassInv (b g n : Nat) (f : Nat → List S39) (k : Nat) (W : World) : Prop := W.heap[b]? = some (.cells #[.slice (some ⟨g, 0, none⟩) n n] 28 (0, 0)) ∧ ∃ cur, RelsAt W g cur n (f k)
theorem PassInv.keep {b g n : Nat} {f : Nat → List S39} (k : Nat) (W W' : World) (h : PassInv b g n f k W) (hb : Below W.heap.size W W') : PassInv b g n f k W' :=
  ⟨(hb.block _ (Array.getElem?_eq_some_iff.1 h.1).1).trans h.1, h.2.imp fun _ h => h.keep hb⟩
set_option maxHeartbeats 4000000 in
set_option maxRecDepth 100000 in
theorem passup_err (A0 : Option Addr) (n0 c0 : Nat) (A1 : Option Addr) (n1 c1 : Nat) (A2 : Option Addr) (n2 c2 : Nat) (w : World) (hne : n2 ≠ n0) :
    Calls Tryz.prog 6 #[.agg #[.slice A0 n0 c0, .slice A1 n1 c1], .slice A2 n2 c2] w fun e w' => e = .returned (.tuple #[.slice none 0 0, .int .i64 1]) ∧ Below w.heap.size w w' := by
  have hbe := below_alloc (Below.refl w.heap.size w) (.cells #[.slice A0 n0 c0, .slice A1 n1 c1] 27)
  have hk := heap_alloc_new w (.cells #[.slice A0 n0 c0, .slice A1 n1 c1] 27)
  have hb2 := below_alloc hbe (.cells #[.slice A2 n2 c2] 28)
  have hk2 : ((w.alloc (.cells #[.slice A0 n0 c0, .slice A1 n1 c1] 27)).alloc (.cells #[.slice A2 n2 c2] 28)).heap[w.heap.size]? = _ := (Below.heap_alloc _ _ _ (by simp)).trans hk
  have hk3 := heap_alloc_new (w.alloc (.cells #[.slice A0 n0 c0, .slice A1 n1 c1] 27)) (.cells #[.slice A2 n2 c2] 28)
  rw [World.size_alloc] at hk3
  have q0 := blk2_c0 hk2
  have q1 := cell_of_blk1 hk3
  have hni : ¬ ((n2 : Int) = (n0 : Int)) := by omega
  have hnb : ((n2 : Int) != (n0 : Int)) = true := by simpa using hni
  have HB := Aside0.mk hb2
  clear hbe hk hb2 hk2 hk3
  go_enter Tryz.func6, Tryz.ntmps6
  go_wp2
  go_ret2
  exact ⟨rfl, HB.out⟩
set_option maxHeartbeats 4000000 in
set_option maxRecDepth 100000 in
theorem passup_any {dep : Nat → Nat} {root : Nat} (A0 : Option Addr) (n0 c0 : Nat) (A1 : Option Addr) (c1 : Nat) (P : List Int) (A2 : Option Addr) (c2 : Nat) (l : List S39) (w : World) (hP : Kd.C KI w A1 P.length P) (hC : Kd.C k39 w A2 l.length l) (hT : TreeOK P dep root) (hn : l.length = n0) (hp : l.length = P.length) (hl : FitL l) (htab : Tab w) :
    Calls Tryz.prog 6 #[.agg #[.slice A0 n0 c0, .slice A1 P.length c1], .slice A2 l.length c2] w fun e w' => ∃ v, e = .returned (.tuple #[v, .int .i64 0]) ∧ RelsM w' w.heap.size v (upL (parOf P) (afterN P) l) ∧ Below w.heap.size w w' := by
  have hbe := below_alloc (Below.refl w.heap.size w) (.cells #[.slice A0 n0 c0, .slice A1 P.length c1] 27)
  have hk := heap_alloc_new w (.cells #[.slice A0 n0 c0, .slice A1 P.length c1] 27)
  have hb2 := below_alloc hbe (.cells #[.slice A2 l.length c2] 28)
  have hk2 : ((w.alloc (.cells #[.slice A0 n0 c0, .slice A1 P.length c1] 27)).alloc (.cells #[.slice A2 l.length c2] 28)).heap[w.heap.size]? = _ := (Below.heap_alloc _ _ _ (by simp)).trans hk
  have hk3 := heap_alloc_new (w.alloc (.cells #[.slice A0 n0 c0, .slice A1 P.length c1] 27)) (.cells #[.slice A2 l.length c2] 28)
  rw [World.size_alloc] at hk3
  have hsz : ((w.alloc (.cells #[.slice A0 n0 c0, .slice A1 P.length c1] 27)).alloc (.cells #[.slice A2 l.length c2] 28)).heap.size = w.heap.size + 1 + 1 := by simp
  have q0 := blk2_c0 hk2
  have q1 := cell_of_blk1 hk3
  have hnb : ((l.length : Int) != (n0 : Int)) = false := by simp [hn]
  have HB := Aside0.mk (And.intro hb2 (And.intro hk2 hk3))
  have HI := Aside0.mk (And.intro hP (And.intro hl htab))
  have HT := Aside0.mk (after_is hT)
  have HTT := Aside0.mk (show TreeOf l.length (parOf P) dep from by rw [hp]; exact hT.tree)
  have hlen := hl.len
  have hcop := copied_any A2 c2 l _ (Kd.C_below hC hb2) (by omega) hl.mem
  rw [hsz] at hcop
  have HNP := Aside0.mk (And.intro hn hp)
  clear hbe hk hb2 hk2 hk3 hP hC hT hl htab hn hp
  go_enter Tryz.func6, Tryz.ntmps6
  go_upto_region 4 with (go_at_call 16; refine hcop.mono ?_; rintro e w2 ⟨v, rfl, ⟨g, cur, hg, rfl, hR⟩, hb⟩; have hx2 := (hb.block _ (by omega)).trans HB.out.2.2; have HX := Aside0.mk (And.intro ((hb.block _ (by omega)).trans HB.out.2.1) (And.intro hx2 (HB.out.1.trans (hb.mono (by omega))))); have q2 := cell_of_blk1 hx2; have q3 := frozen_of_blk (i := 0) hx2; have HR := Aside0.mk hR; have hbs := hb.size; clear hx2 hR hb)
  clear q0 q1 hcop hnb hsz
  have hp := HNP.out.2
  have hgl := HR.out.lt
  have hW3 : w.heap.size + 1 < w2.heap.size := by omega
  have hb1 := blk1_set HX.out.2.1 (.slice (some ⟨g, 0, none⟩) l.length l.length)
  have hT3 := (Below.heap_setCell w2 ⟨w.heap.size + 1, 0, none⟩ (.slice (some ⟨g, 0, none⟩) l.length l.length) w.heap.size (by show w.heap.size ≠ w.heap.size + 1; omega)).trans HX.out.1
  have hR3 := HR.out.far (p := ⟨w.heap.size + 1, 0, none⟩) (by show w.heap.size + 1 < g; omega) (.slice (some ⟨g, 0, none⟩) l.length l.length)
  have hB3 := HX.out.2.2.setCell (p := ⟨w.heap.size + 1, 0, none⟩) (Nat.le_succ _) (.slice (some ⟨g, 0, none⟩) l.length l.length)
  have hl3 : g < (w2.setCell ⟨w.heap.size + 1, 0, none⟩ (.slice (some ⟨g, 0, none⟩) l.length l.length)).heap.size := by simpa [World.setCell] using hgl
  generalize w2.setCell ⟨w.heap.size + 1, 0, none⟩ (.slice (some ⟨g, 0, none⟩) l.length l.length) = W3 at *
  have HW := Aside0.mk (And.intro hB3 (And.intro hT3 hb1))
  have q4 := blk2_c0 hT3
  have q5 := blk2_c1 hT3
  obtain ⟨ord, hord⟩ : ∃ ord, ord = afterN P := ⟨_, rfl⟩
  have hol : ord.length ≤ P.length := by rw [hord]; exact behind_len HT.out.2
  have hmem : ∀ k (hk : k < ord.length), ord[k] < P.length := fun k hk => by
    obtain ⟨i, hi⟩ : ∃ i, i = ord[k] := ⟨_, rfl⟩
    rw [← hi]
    subst hord
    exact (HT.out.2.mem i).1 (by rw [hi]; exact List.getElem_mem hk)
  have hI0 : PassInv (w.heap.size + 1) g l.length (fun k => upL (parOf P) (ord.take k) l) 0 W3 := ⟨hb1, cur, hR3⟩
  have hgs : w.heap.size + 1 + 1 ≤ g := hg
  have hgw : w.heap.size ≤ g := by omega
  have hed := edges_up A0 n0 c0 A1 c1 P (w.heap.size + 1) g (ofN ord) (PassInv (w.heap.size + 1) g l.length (fun k => upL (parOf P) (ord.take k) l)) W3 hl3 (by omega)
    (fun W hW => Kd.C_below HI.out.1 (hW.below HW.out.1 HW.out.1.size hgw)) (by rw [hord]; exact (HT.out.1)) (by rw [ofN_len]; omega)
    (fun k hk => by rw [ofN_len] at hk; rw [ofN_rd _ _ hk]; have := hmem k hk; omega) hI0 PassInv.keep
    (fun k W hk h0 hI => by
      rw [ofN_len] at hk
      rw [ofN_rd _ _ hk] at h0
      have h2 := parOf_none (hmem k hk) h0
      refine ⟨hI.1, ?_⟩
      obtain ⟨cur', h3⟩ := hI.2
      refine ⟨cur', ?_⟩
      show RelsAt W g cur' l.length (upL (parOf P) (ord.take (k + 1)) l)
      rw [take_snoc ord k hk, upL_none h2]
      exact h3)
    (fun k W hk h0 hI hW => by
      rw [ofN_len] at hk
      rw [ofN_rd _ _ hk] at h0 ⊢
      obtain ⟨i, hi⟩ : ∃ i, i = ord[k] := ⟨_, rfl⟩
      have hiP : i < P.length := by rw [hi]; exact hmem k hk
      rw [← hi] at h0 ⊢
      have h2 := parOf_of hiP h0
      obtain ⟨p, hpp⟩ : ∃ p, p = (rd P (i : Int)).toNat := ⟨_, rfl⟩
      rw [← hpp] at h2
      have hrp : rd P (i : Int) = (p : Int) := by omega
      rw [hrp]
      have hpn := (HTT.out.lt i p (by omega) h2).1
      obtain ⟨cur', h3⟩ := hI.2
      obtain ⟨u1, u2, u3⟩ := upL_is' HTT.out (ord.take k)
      have hrt := HI.out.2.1.rt.up HTT.out (ord.take k)
      have hsn : upL (parOf P) (ord.take (k + 1)) l = semiAt (upL (parOf P) (ord.take k) l) p i := by rw [take_snoc ord k hk, ← hi, upL_some h2]
      refine (up1_any p i (w.heap.size + 1) g l.length cur' (upL (parOf P) (ord.take k) l) W hI.1 h3 u1 (by omega) (by omega) (by omega) hrt (HI.out.2.2.step (hW.below HW.out.1 HW.out.1.size hgw))).mono ?_
      rintro e w' ⟨rfl, cur2, h5, h6⟩
      refine ⟨rfl, ⟨(h6.block _ (Array.getElem?_eq_some_iff.1 hI.1).1 (by omega)).trans hI.1, cur2, ?_⟩, h6⟩
      show RelsAt w' g cur2 l.length (upL (parOf P) (ord.take (k + 1)) l)
      rw [hsn]; exact h5)
  rw [ofN_len] at hed
  have HORD := Aside0.mk hord
  clear hp hord
  clear hI0 hR3 hb1 hT3 hB3
  go_wp2_with (go_at_call 17; refine hed.mono ?_; rintro e w4 ⟨rfl, hI, hb4⟩; have q6 := cell_of_blk1 hI.1; have HE := Aside0.mk (And.intro hI.2 hb4); clear hI hb4)
  go_ret2
  have hord := HORD.out
  subst hord
  obtain ⟨cur4, h4⟩ := HE.out.1
  rw [List.take_length] at h4
  obtain ⟨u1, u2, u3⟩ := upL_is' HTT.out (afterN P)
  exact ⟨_, rfl, ⟨g, cur4, hgw, by rw [u1]; rfl, by rw [u1]; exact h4⟩, HE.out.2.below HW.out.1 HW.out.1.size hgw⟩
set_option maxHeartbeats 4000000 in
set_option maxRecDepth 100000 in
theorem passdown_err (A0 : Option Addr) (n0 c0 : Nat) (A1 : Option Addr) (n1 c1 : Nat) (A2 : Option Addr) (n2 c2 : Nat) (w : World) (hne : n2 ≠ n0) :
    Calls Tryz.prog 7 #[.agg #[.slice A0 n0 c0, .slice A1 n1 c1], .slice A2 n2 c2] w fun e w' => e = .returned (.tuple #[.slice none 0 0, .int .i64 1]) ∧ Below w.heap.size w w' := by
  have hbe := below_alloc (Below.refl w.heap.size w) (.cells #[.slice A0 n0 c0, .slice A1 n1 c1] 27)
  have hk := heap_alloc_new w (.cells #[.slice A0 n0 c0, .slice A1 n1 c1] 27)
  have hb2 := below_alloc hbe (.cells #[.slice A2 n2 c2] 28)
  have hk2 : ((w.alloc (.cells #[.slice A0 n0 c0, .slice A1 n1 c1] 27)).alloc (.cells #[.slice A2 n2 c2] 28)).heap[w.heap.size]? = _ := (Below.heap_alloc _ _ _ (by simp)).trans hk
  have hk3 := heap_alloc_new (w.alloc (.cells #[.slice A0 n0 c0, .slice A1 n1 c1] 27)) (.cells #[.slice A2 n2 c2] 28)
  rw [World.size_alloc] at hk3
  have q0 := blk2_c0 hk2
  have q1 := cell_of_blk1 hk3
  have hni : ¬ ((n2 : Int) = (n0 : Int)) := by omega
  have hnb : ((n2 : Int) != (n0 : Int)) = true := by simpa using hni
  have HB := Aside0.mk hb2
  clear hbe hk hb2 hk2 hk3
  go_enter Tryz.func7, Tryz.ntmps7
  go_wp2
  go_ret2
  exact ⟨rfl, HB.out⟩
set_option maxHeartbeats 4000000 in
set_option maxRecDepth 100000 in
theorem passdown_any {dep : Nat → Nat} {root : Nat} (A0 : Option Addr) (n0 c0 : Nat) (A1 : Option Addr) (c1 : Nat) (P : List Int) (A2 : Option Addr) (c2 : Nat) (l : List S39) (w : World) (hP : Kd.C KI w A1 P.length P) (hC : Kd.C k39 w A2 l.length l) (hT : TreeOK P dep root) (hn : l.length = n0) (hp : l.length = P.length) (hl : FitL l) (htab : Tab w) :
    Calls Tryz.prog 7 #[.agg #[.slice A0 n0 c0, .slice A1 P.length c1], .slice A2 l.length c2] w fun e w' => ∃ v, e = .returned (.tuple #[v, .int .i64 0]) ∧ RelsM w' w.heap.size v (downL (parOf P) ((afterN P).reverse) l) ∧ Below w.heap.size w w' := by
  have hbe := below_alloc (Below.refl w.heap.size w) (.cells #[.slice A0 n0 c0, .slice A1 P.length c1] 27)
  have hk := heap_alloc_new w (.cells #[.slice A0 n0 c0, .slice A1 P.length c1] 27)
  have hb2 := below_alloc hbe (.cells #[.slice A2 l.length c2] 28)
  have hk2 : ((w.alloc (.cells #[.slice A0 n0 c0, .slice A1 P.length c1] 27)).alloc (.cells #[.slice A2 l.length c2] 28)).heap[w.heap.size]? = _ := (Below.heap_alloc _ _ _ (by simp)).trans hk
  have hk3 := heap_alloc_new (w.alloc (.cells #[.slice A0 n0 c0, .slice A1 P.length c1] 27)) (.cells #[.slice A2 l.length c2] 28)
  rw [World.size_alloc] at hk3
  have hsz : ((w.alloc (.cells #[.slice A0 n0 c0, .slice A1 P.length c1] 27)).alloc (.cells #[.slice A2 l.length c2] 28)).heap.size = w.heap.size + 1 + 1 := by simp
  have q0 := blk2_c0 hk2
  have q1 := cell_of_blk1 hk3
  have hnb : ((l.length : Int) != (n0 : Int)) = false := by simp [hn]
  have HB := Aside0.mk (And.intro hb2 (And.intro hk2 hk3))
  have HI := Aside0.mk (And.intro hP (And.intro hl htab))
  have HT := Aside0.mk (after_is hT)
  have HTT := Aside0.mk (show TreeOf l.length (parOf P) dep from by rw [hp]; exact hT.tree)
  have hlen := hl.len
  have hcop := copied_any A2 c2 l _ (Kd.C_below hC hb2) (by omega) hl.mem
  rw [hsz] at hcop
  have HNP := Aside0.mk (And.intro hn hp)
  clear hbe hk hb2 hk2 hk3 hP hC hT hl htab hn hp
  go_enter Tryz.func7, Tryz.ntmps7
  go_upto_region 4 with (go_at_call 16; refine hcop.mono ?_; rintro e w2 ⟨v, rfl, ⟨g, cur, hg, rfl, hR⟩, hb⟩; have hx2 := (hb.block _ (by omega)).trans HB.out.2.2; have HX := Aside0.mk (And.intro ((hb.block _ (by omega)).trans HB.out.2.1) (And.intro hx2 (HB.out.1.trans (hb.mono (by omega))))); have q2 := cell_of_blk1 hx2; have q3 := frozen_of_blk (i := 0) hx2; have HR := Aside0.mk hR; have hbs := hb.size; clear hx2 hR hb)
  clear q0 q1 hcop hnb hsz
  have hp := HNP.out.2
  have hgl := HR.out.lt
  have hW3 : w.heap.size + 1 < w2.heap.size := by omega
  have hb1 := blk1_set HX.out.2.1 (.slice (some ⟨g, 0, none⟩) l.length l.length)
  have hT3 := (Below.heap_setCell w2 ⟨w.heap.size + 1, 0, none⟩ (.slice (some ⟨g, 0, none⟩) l.length l.length) w.heap.size (by show w.heap.size ≠ w.heap.size + 1; omega)).trans HX.out.1
  have hR3 := HR.out.far (p := ⟨w.heap.size + 1, 0, none⟩) (by show w.heap.size + 1 < g; omega) (.slice (some ⟨g, 0, none⟩) l.length l.length)
  have hB3 := HX.out.2.2.setCell (p := ⟨w.heap.size + 1, 0, none⟩) (Nat.le_succ _) (.slice (some ⟨g, 0, none⟩) l.length l.length)
  have hl3 : g < (w2.setCell ⟨w.heap.size + 1, 0, none⟩ (.slice (some ⟨g, 0, none⟩) l.length l.length)).heap.size := by simpa [World.setCell] using hgl
  generalize w2.setCell ⟨w.heap.size + 1, 0, none⟩ (.slice (some ⟨g, 0, none⟩) l.length l.length) = W3 at *
  have HW := Aside0.mk (And.intro hB3 (And.intro hT3 hb1))
  have q4 := blk2_c0 hT3
  have q5 := blk2_c1 hT3
  obtain ⟨ord, hord⟩ : ∃ ord, ord = (afterN P).reverse := ⟨_, rfl⟩
  have hol : ord.length ≤ P.length := by rw [hord]; rw [List.length_reverse]; exact behind_len HT.out.2
  have hmem : ∀ k (hk : k < ord.length), ord[k] < P.length := fun k hk => by
    obtain ⟨i, hi⟩ : ∃ i, i = ord[k] := ⟨_, rfl⟩
    rw [← hi]
    subst hord
    exact (HT.out.2.mem i).1 (List.mem_reverse.1 (by rw [hi]; exact List.getElem_mem hk))
  have hI0 : PassInv (w.heap.size + 1) g l.length (fun k => downL (parOf P) (ord.take k) l) 0 W3 := ⟨hb1, cur, hR3⟩
  have hgs : w.heap.size + 1 + 1 ≤ g := hg
  have hgw : w.heap.size ≤ g := by omega
  have hed := edges_down A0 n0 c0 A1 c1 P (w.heap.size + 1) g (ofN ord) (PassInv (w.heap.size + 1) g l.length (fun k => downL (parOf P) (ord.take k) l)) W3 hl3 (by omega)
    (fun W hW => Kd.C_below HI.out.1 (hW.below HW.out.1 HW.out.1.size hgw)) (by rw [hord]; exact (by rw [HT.out.1, ← ofN_reverse])) (by rw [ofN_len]; omega)
    (fun k hk => by rw [ofN_len] at hk; rw [ofN_rd _ _ hk]; have := hmem k hk; omega) hI0 PassInv.keep
    (fun k W hk h0 hI => by
      rw [ofN_len] at hk
      rw [ofN_rd _ _ hk] at h0
      have h2 := parOf_none (hmem k hk) h0
      refine ⟨hI.1, ?_⟩
      obtain ⟨cur', h3⟩ := hI.2
      refine ⟨cur', ?_⟩
      show RelsAt W g cur' l.length (downL (parOf P) (ord.take (k + 1)) l)
      rw [take_snoc ord k hk, downL_none h2]
      exact h3)
    (fun k W hk h0 hI hW => by
      rw [ofN_len] at hk
      rw [ofN_rd _ _ hk] at h0 ⊢
      obtain ⟨i, hi⟩ : ∃ i, i = ord[k] := ⟨_, rfl⟩
      have hiP : i < P.length := by rw [hi]; exact hmem k hk
      rw [← hi] at h0 ⊢
      have h2 := parOf_of hiP h0
      obtain ⟨p, hpp⟩ : ∃ p, p = (rd P (i : Int)).toNat := ⟨_, rfl⟩
      rw [← hpp] at h2
      have hrp : rd P (i : Int) = (p : Int) := by omega
      rw [hrp]
      have hpn := (HTT.out.lt i p (by omega) h2).1
      obtain ⟨cur', h3⟩ := hI.2
      obtain ⟨u1, u2, u3⟩ := downL_is' HTT.out (ord.take k)
      have hrt := HI.out.2.1.rt.down HTT.out (ord.take k)
      have hsn : downL (parOf P) (ord.take (k + 1)) l = semiAt (downL (parOf P) (ord.take k) l) i p := by rw [take_snoc ord k hk, ← hi, downL_some h2]
      refine (down1_any i p (w.heap.size + 1) g l.length cur' (downL (parOf P) (ord.take k) l) W hI.1 h3 u1 (by omega) (by omega) (by omega) hrt (HI.out.2.2.step (hW.below HW.out.1 HW.out.1.size hgw))).mono ?_
      rintro e w' ⟨rfl, cur2, h5, h6⟩
      refine ⟨rfl, ⟨(h6.block _ (Array.getElem?_eq_some_iff.1 hI.1).1 (by omega)).trans hI.1, cur2, ?_⟩, h6⟩
      show RelsAt w' g cur2 l.length (downL (parOf P) (ord.take (k + 1)) l)
      rw [hsn]; exact h5)
  rw [ofN_len] at hed
  have HORD := Aside0.mk hord
  clear hp hord
  clear hI0 hR3 hb1 hT3 hB3
  go_wp2_with (go_at_call 17; refine hed.mono ?_; rintro e w4 ⟨rfl, hI, hb4⟩; have q6 := cell_of_blk1 hI.1; have HE := Aside0.mk (And.intro hI.2 hb4); clear hI hb4)
  go_ret2
  have hord := HORD.out
  subst hord
  obtain ⟨cur4, h4⟩ := HE.out.1
  rw [List.take_length] at h4
  obtain ⟨u1, u2, u3⟩ := downL_is' HTT.out ((afterN P).reverse)
  exact ⟨_, rfl, ⟨g, cur4, hgw, by rw [u1]; rfl, by rw [u1]; exact h4⟩, HE.out.2.below HW.out.1 HW.out.1.size hgw⟩
end Go.Proofs.YtpimooejnpdlpaaGreatDoor.G

/- pass.Reduce, pass.Settled: what they answer. -/
set_option linter.unusedVariables false
set_option linter.unusedSimpArgs false
namespace Go.Proofs.YtpimooejnpdlpaaGreatDoor.G
open Go.RowKit Go.Proofs.YtpimooejnpdlpaaGreatDoorW.PrintWords Go.Proofs.YtpimooejnpdlpaaGreatDoorW.PrintLast Go.Proofs.YtpimooejnpdlpaaGreatDoorW.PrintMore Go.Proofs.YtpimooejnpdlpaaGreatDoor.PRefs

theorem RelsM.val {W : World} {base : Nat} {v : Value} {l : List S39} (h : RelsM W base v l) (hm : l.length ≤ maxLen) : ∃ g, v = .slice (some ⟨g, 0, none⟩) l.length l.length ∧ Kd.C k39 W (some ⟨g, 0, none⟩) l.length l := by
  obtain ⟨g, cur, _, e, hR⟩ := h
  exact ⟨g, e, hR.reads hm⟩
theorem RelsM.below {W W1 : World} {base : Nat} {v : Value} {l : List S39} (h : RelsM W base v l) (hb : Below W.heap.size W W1) : RelsM W1 base v l := by
  obtain ⟨g, cur, h0, e, hR⟩ := h
  exact ⟨g, cur, h0, e, hR.keep hb⟩
theorem RelsM.lower {W : World} {base base' : Nat} {v : Value} {l : List S39} (h : RelsM W base v l) (hb : base' ≤ base) : RelsM W base' v l := by
  obtain ⟨g, cur, h0, e, hR⟩ := h
  exact ⟨g, cur, Nat.le_trans hb h0, e, hR⟩

set_option maxHeartbeats 4000000 in
set_option maxRecDepth 100000 in
theorem reduce_err (A0 : Option Addr) (n0 c0 : Nat) (A1 : Option Addr) (n1 c1 : Nat) (A2 : Option Addr) (n2 c2 : Nat) (w : World) (hne : n2 ≠ n0) :
    Calls Tryz.prog 8 #[.agg #[.slice A0 n0 c0, .slice A1 n1 c1], .slice A2 n2 c2] w fun e w' => e = .returned (.tuple #[.slice none 0 0, .int .i64 1]) ∧ Below w.heap.size w w' := by
  have hbe := below_alloc (Below.refl w.heap.size w) (.cells #[.slice A0 n0 c0, .slice A1 n1 c1] 27)
  have hk := heap_alloc_new w (.cells #[.slice A0 n0 c0, .slice A1 n1 c1] 27)
  have q0 := blk2_c0 hk
  have q1 := blk2_c1 hk
  have HB := Aside0.mk hbe
  have hup := passup_err A0 n0 c0 A1 n1 c1 A2 n2 c2 (w.alloc (.cells #[.slice A0 n0 c0, .slice A1 n1 c1] 27)) hne
  clear hbe hk
  go_enter Tryz.func8, Tryz.ntmps8
  go_wp2_with (go_at_call 6; refine hup.mono ?_; rintro e w2 ⟨rfl, hb⟩; have HB2 := Aside0.mk (below_then HB.out HB.out.size hb); clear hb)
  go_ret2
  exact ⟨rfl, HB2.out⟩
set_option maxHeartbeats 4000000 in
set_option maxRecDepth 100000 in
theorem reduce_any {dep : Nat → Nat} {root : Nat} (A0 : Option Addr) (n0 c0 : Nat) (A1 : Option Addr) (c1 : Nat) (P : List Int) (A2 : Option Addr) (c2 : Nat) (l : List S39) (w : World) (hP : Kd.C KI w A1 P.length P) (hC : Kd.C k39 w A2 l.length l) (hT : TreeOK P dep root) (hn : l.length = n0) (hp : l.length = P.length) (hl : FitL l) (htab : Tab w) :
    Calls Tryz.prog 8 #[.agg #[.slice A0 n0 c0, .slice A1 P.length c1], .slice A2 l.length c2] w fun e w' => ∃ v, e = .returned (.tuple #[v, .int .i64 0]) ∧ RelsM w' w.heap.size v (redL (parOf P) (afterN P) l) ∧ Below w.heap.size w w' := by
  have hbe := below_alloc (Below.refl w.heap.size w) (.cells #[.slice A0 n0 c0, .slice A1 P.length c1] 27)
  have hk := heap_alloc_new w (.cells #[.slice A0 n0 c0, .slice A1 P.length c1] 27)
  have q0 := blk2_c0 hk
  have q1 := blk2_c1 hk
  have HB := Aside0.mk (And.intro hbe hk)
  have hTT : TreeOf l.length (parOf P) dep := by rw [hp]; exact hT.tree
  have hup := passup_any A0 n0 c0 A1 c1 P A2 c2 l (w.alloc (.cells #[.slice A0 n0 c0, .slice A1 P.length c1] 27)) (Kd.C_below hP hbe) (Kd.C_below hC hbe) hT hn hp hl (htab.step hbe)
  obtain ⟨u1, u2, u3⟩ := upL_is' hTT (afterN P)
  have hfu := hl.up hTT (afterN P)
  have HI := Aside0.mk (And.intro hP (And.intro hT htab))
  have HL := Aside0.mk (show redL (parOf P) (afterN P) l = downL (parOf P) (afterN P).reverse (upL (parOf P) (afterN P) l) from rfl)
  generalize redL (parOf P) (afterN P) l = R at *
  generalize upL (parOf P) (afterN P) l = U at *
  have HU := Aside0.mk (And.intro hfu (And.intro (u1.trans hn) (u1.trans hp)))
  have hul := hfu.len
  clear hbe hk hP hC hT hn hp hl htab hTT u1 u2 u3 hfu
  go_enter Tryz.func8, Tryz.ntmps8
  go_wp2_with (first
    | (have hgd := HM; clear hgd; go_at_call 7; refine (passdown_any A0 n0 c0 A1 c1 P _ _ U w2 (Kd.C_below HI.out.1 HX.out.1) HM.out.2 HI.out.2.1 HU.out.2.1 HU.out.2.2 HU.out.1 (HI.out.2.2.step HX.out.1)).mono ?_; rintro e w3 ⟨v3, rfl, hv3, hb3⟩; have HV := Aside0.mk (And.intro hv3 hb3); clear hv3 hb3)
    | (go_at_call 6; refine hup.mono ?_; rintro e w2 ⟨v, rfl, hv, hb⟩; have HX := Aside0.mk (And.intro (below_then HB.out.1 HB.out.1.size hb) ((hb.block _ (by simp)).trans HB.out.2)); obtain ⟨g, rfl, hCU⟩ := hv.val (by unfold maxLen; omega); have HM := Aside0.mk (And.intro hv hCU); have q2 := blk2_c0 HX.out.2; have q3 := blk2_c1 HX.out.2; clear hv hCU hb q0 q1))
  go_ret2
  exact ⟨_, rfl, by rw [HL.out]; exact HV.out.1.lower HX.out.1.size, below_then HX.out.1 HX.out.1.size HV.out.2⟩

/-! ### Settled -/
def accB (P : List Int) (l : List S39) (m : List Nat) : Bool := m.all fun i => match parOf P i with | some p => agreeB l i p | none => true
theorem accB_snoc (P : List Int) (l : List S39) (m : List Nat) (i : Nat) : accB P l (m ++ [i]) = (accB P l m && match parOf P i with | some p => agreeB l i p | none => true) := by simp [accB]
theorem accB_all {P : List Int} {l : List S39} {m : List Nat} (hm : ∀ i, i ∈ m ↔ i < P.length) (b : Bool) (hb : decide (∀ i, i < P.length → ∀ p, parOf P i = some p → projRel (sch l i) (fam l i) (sch l p) = projRel (sch l p) (fam l p) (sch l i)) = b) : accB P l m = b := by
  rw [← hb, Bool.eq_iff_iff, decide_eq_true_eq]
  unfold accB
  rw [List.all_eq_true]
  constructor
  · intro h i hi p hp
    have := h i ((hm i).2 hi)
    rw [hp] at this
    exact of_decide_eq_true this
  · intro h i hi
    cases hp : parOf P i with
    | none => rfl
    | some p => exact decide_eq_true (h i ((hm i).1 hi) p hp)
theorem settledP_dec (P : List Int) (l : List S39) : (∀ i, i < P.length → ∀ p, parOf P i = some p → projRel (sch l i) (fam l i) (sch l p) = projRel (sch l p) (fam l p) (sch l i)) ↔ SettledP (parOf P) l :=
  ⟨fun h i p hp => h i (parOf_some hp).1 p hp, fun h i _ p hp => h i p hp⟩
def settledB (P : List Int) (l : List S39) : Bool := decide (∀ i, i < P.length → ∀ p, parOf P i = some p → projRel (sch l i) (fam l i) (sch l p) = projRel (sch l p) (fam l p) (sch l i))
set_option maxHeartbeats 4000000 in
set_option maxRecDepth 100000 in
theorem settled_err (A0 : Option Addr) (n0 c0 : Nat) (A1 : Option Addr) (n1 c1 : Nat) (A2 : Option Addr) (n2 c2 : Nat) (w : World) (hne : n2 ≠ n0) :
    Calls Tryz.prog 10 #[.agg #[.slice A0 n0 c0, .slice A1 n1 c1], .slice A2 n2 c2] w fun e w' => e = .returned (.bool false) ∧ Below w.heap.size w w' := by
  have hbe := below_alloc (Below.refl w.heap.size w) (.cells #[.slice A0 n0 c0, .slice A1 n1 c1] 27)
  have hk := heap_alloc_new w (.cells #[.slice A0 n0 c0, .slice A1 n1 c1] 27)
  have hb2 := below_alloc hbe (.cells #[.slice A2 n2 c2] 28)
  have hk2 : ((w.alloc (.cells #[.slice A0 n0 c0, .slice A1 n1 c1] 27)).alloc (.cells #[.slice A2 n2 c2] 28)).heap[w.heap.size]? = _ := (Below.heap_alloc _ _ _ (by simp)).trans hk
  have hk3 := heap_alloc_new (w.alloc (.cells #[.slice A0 n0 c0, .slice A1 n1 c1] 27)) (.cells #[.slice A2 n2 c2] 28)
  rw [World.size_alloc] at hk3
  have q0 := blk2_c0 hk2
  have q1 := cell_of_blk1 hk3
  have hni : ¬ ((n2 : Int) = (n0 : Int)) := by omega
  have hnb : ((n2 : Int) != (n0 : Int)) = true := by simpa using hni
  have HB := Aside0.mk hb2
  clear hbe hk hb2 hk2 hk3
  go_enter Tryz.func10, Tryz.ntmps10
  go_wp2
  go_ret
  exact ⟨rfl, HB.out⟩
def SetInv (b1 b2 n c : Nat) (A : Option Addr) (P : List Int) (l : List S39) (ord : List Nat) (k : Nat) (W : World) : Prop :=
  W.heap[b1]? = some (.cells #[.bool (accB P l (ord.take k))] 4 (0, 0)) ∧ W.heap[b2]? = some (.cells #[.slice A n c] 28 (0, 0))
theorem SetInv.keep {b1 b2 n c : Nat} {A : Option Addr} {P : List Int} {l : List S39} {ord : List Nat} (k : Nat) (W W' : World) (h : SetInv b1 b2 n c A P l ord k W) (hb : Below W.heap.size W W') : SetInv b1 b2 n c A P l ord k W' :=
  ⟨(hb.block _ (Array.getElem?_eq_some_iff.1 h.1).1).trans h.1, (hb.block _ (Array.getElem?_eq_some_iff.1 h.2).1).trans h.2⟩
set_option maxHeartbeats 4000000 in
set_option maxRecDepth 100000 in
theorem settled_any {dep : Nat → Nat} {root : Nat} (A0 : Option Addr) (n0 c0 : Nat) (A1 : Option Addr) (c1 : Nat) (P : List Int) (A2 : Option Addr) (c2 : Nat) (l : List S39) (w : World) (hP : Kd.C KI w A1 P.length P) (hC : Kd.C k39 w A2 l.length l) (hT : TreeOK P dep root) (hn : l.length = n0) (hp : l.length = P.length) (hl : FitL l) (b : Bool) (hb : settledB P l = b) :
    Calls Tryz.prog 10 #[.agg #[.slice A0 n0 c0, .slice A1 P.length c1], .slice A2 l.length c2] w fun e w' => e = .returned (.bool b) ∧ Below w.heap.size w w' := by
  have hbe := below_alloc (Below.refl w.heap.size w) (.cells #[.slice A0 n0 c0, .slice A1 P.length c1] 27)
  have hk := heap_alloc_new w (.cells #[.slice A0 n0 c0, .slice A1 P.length c1] 27)
  have hb2 := below_alloc hbe (.cells #[.slice A2 l.length c2] 28)
  have hk2 : ((w.alloc (.cells #[.slice A0 n0 c0, .slice A1 P.length c1] 27)).alloc (.cells #[.slice A2 l.length c2] 28)).heap[w.heap.size]? = _ := (Below.heap_alloc _ _ _ (by simp)).trans hk
  have hk3 := heap_alloc_new (w.alloc (.cells #[.slice A0 n0 c0, .slice A1 P.length c1] 27)) (.cells #[.slice A2 l.length c2] 28)
  rw [World.size_alloc] at hk3
  have q0 := blk2_c0 hk2
  have q1 := cell_of_blk1 hk3
  have hnb : ((l.length : Int) != (n0 : Int)) = false := by simp [hn]
  have HI := Aside0.mk (And.intro hP (And.intro hl hC))
  have HT := Aside0.mk (after_is hT)
  have HTT := Aside0.mk (show TreeOf l.length (parOf P) dep from by rw [hp]; exact hT.tree)
  have hlen := hl.len
  have hsz : ((w.alloc (.cells #[.slice A0 n0 c0, .slice A1 P.length c1] 27)).alloc (.cells #[.slice A2 l.length c2] 28)).heap.size = w.heap.size + 1 + 1 := by simp
  obtain ⟨W2, hW2⟩ : ∃ W2, W2 = (w.alloc (.cells #[.slice A0 n0 c0, .slice A1 P.length c1] 27)).alloc (.cells #[.slice A2 l.length c2] 28) := ⟨_, rfl⟩
  rw [← hW2] at hb2 hk2 hk3 hsz q0 q1
  have hb3 := below_alloc hb2 (.cells #[.bool true] 4)
  have hk4 := (Below.heap_alloc W2 (.cells #[.bool true] 4) _ (by omega)).trans hk2
  have hk5 := (Below.heap_alloc W2 (.cells #[.bool true] 4) _ (by omega)).trans hk3
  have hk6 := heap_alloc_new W2 (.cells #[.bool true] 4)
  have hsz3 : (W2.alloc (.cells #[.bool true] 4)).heap.size = W2.heap.size + 1 := by simp
  obtain ⟨W3, hW3⟩ : ∃ W3, W3 = W2.alloc (.cells #[.bool true] 4) := ⟨_, rfl⟩
  rw [← hW3] at hb3 hk4 hk5 hk6 hsz3
  rw [hsz] at hk6 hsz3
  have q4 := blk2_c0 hk4
  have q5 := blk2_c1 hk4
  have HW := Aside0.mk (And.intro hb3 (And.intro hk4 (And.intro hk5 hk6)))
  obtain ⟨ord, hord⟩ : ∃ ord, ord = afterN P := ⟨_, rfl⟩
  have hol : ord.length ≤ P.length := by rw [hord]; exact behind_len HT.out.2
  have hmem : ∀ k (hk : k < ord.length), ord[k] < P.length := fun k hk => by
    obtain ⟨i, hi⟩ : ∃ i, i = ord[k] := ⟨_, rfl⟩
    rw [← hi]
    subst hord
    exact (HT.out.2.mem i).1 (by rw [hi]; exact List.getElem_mem hk)
  have hend : accB P l ord = b := by subst hord; exact accB_all HT.out.2.mem b hb
  have hI0 : SetInv (w.heap.size + 1 + 1) (w.heap.size + 1) l.length c2 A2 P l ord 0 W3 := ⟨hk6, hk5⟩
  have hed := edges_settled A0 n0 c0 A1 c1 P (w.heap.size + 1 + 1) (w.heap.size + 1) (w.heap.size + 1 + 1) (ofN ord) (SetInv (w.heap.size + 1 + 1) (w.heap.size + 1) l.length c2 A2 P l ord) W3 (by omega) (by omega)
    (fun W hW => Kd.C_below HI.out.1 (hW.below HW.out.1 HW.out.1.size (by omega))) (by rw [hord]; exact HT.out.1) (by rw [ofN_len]; omega)
    (fun k hk => by rw [ofN_len] at hk; rw [ofN_rd _ _ hk]; have := hmem k hk; omega) hI0 SetInv.keep
    (fun k W hk h0 hI => by
      rw [ofN_len] at hk
      rw [ofN_rd _ _ hk] at h0
      have h2 := parOf_none (hmem k hk) h0
      refine ⟨?_, hI.2⟩
      rw [take_snoc ord k hk, accB_snoc, h2, Bool.and_true]
      exact hI.1)
    (fun k W hk h0 hI hW => by
      rw [ofN_len] at hk
      rw [ofN_rd _ _ hk] at h0 ⊢
      obtain ⟨i, hi⟩ : ∃ i, i = ord[k] := ⟨_, rfl⟩
      have hiP : i < P.length := by rw [hi]; exact hmem k hk
      rw [← hi] at h0 ⊢
      have h2 := parOf_of hiP h0
      obtain ⟨p, hpp⟩ : ∃ p, p = (rd P (i : Int)).toNat := ⟨_, rfl⟩
      rw [← hpp] at h2
      have hrp : rd P (i : Int) = (p : Int) := by omega
      rw [hrp]
      have hpn := (HTT.out.lt i p (by omega) h2).1
      refine (settled1_any i p (w.heap.size + 1 + 1) (w.heap.size + 1) (accB P l (ord.take k)) A2 c2 l w W hI.1 hI.2 (by omega) (Kd.C_below HI.out.2.2 (hW.below HW.out.1 HW.out.1.size (by omega))) (by omega) (by omega) (by omega) HI.out.2.1.rt).mono ?_
      rintro e w' ⟨rfl, h5, h6⟩
      refine ⟨rfl, ⟨?_, (h6.block _ (Array.getElem?_eq_some_iff.1 hI.2).1 (by omega)).trans hI.2⟩, h6⟩
      rw [take_snoc ord k hk, accB_snoc, ← hi, h2]
      exact h5)
  rw [ofN_len] at hed
  have HE0 := Aside0.mk hend
  clear hI0 hord hend hmem hol hn hp hP hC hT hl hb hb2 hb3 hk2 hk3 hk4 hk5 hk6 hbe hk
  rw [hW3] at q4 q5 hed
  rw [hW2] at q0 q1 q4 q5 hed
  go_enter Tryz.func10, Tryz.ntmps10
  go_wp2_with (go_at_call 17; refine hed.mono ?_; rintro e w4 ⟨rfl, hI, hb4⟩; have q6 := cell_of_blk1 hI.1; have HE := Aside0.mk (And.intro hI hb4); clear hI hb4)
  go_ret

  exact ⟨by rw [HE0.out]; rfl, by have := HE.out.2; rw [← hW2, ← hW3] at this; exact this.below HW.out.1 HW.out.1.size (by omega)⟩
end Go.Proofs.YtpimooejnpdlpaaGreatDoor.G
